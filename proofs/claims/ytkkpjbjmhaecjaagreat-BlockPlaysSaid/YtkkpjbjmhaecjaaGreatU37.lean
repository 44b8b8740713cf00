/- None -/
import Derived.Test.YtkkpjbjmhaecjaaGreatU36
import Derived.RegionCalls
namespace Go.Proofs.YtkkpjbjmhaecjaaGreat
set_option linter.all false
set_option maxRecDepth 100000
set_option maxHeartbeats 4000000
section
section
open Go.RowKit
end
section
open Go.RowKit
theorem zmn (M:Ms)(A:Option Addr)(n c:Nat)(w:World) :
 Calls Tryz.prog 47 #[.agg (msV M A n c)] w fun e w'=>e= .returned (.agg (msV M A n c))∧ Below w.heap.size w w':=by
 obtain⟨kind,ix,sub,tg,la,cr,sz,size,code,data,sq,bl,em,sum⟩:=M;simp only[msV] at *
 go_enter Tryz.func47,Tryz.ntmps47
 go_wp2_with fail
 exact bodyPost_ret (v:= .agg #[.int .i64 kind,.int .i64 ix,.int .i64 sub,.bool tg,.bool la,.bool cr,.bool sz,.int .u32 (size:Nat),.int .u32 (code:Nat),.slice A n c,.int .i64 sq,.int .i64 bl,.int .i64 em,.int .u16 (sum:Nat)]) (by simp[results,Tryz.results47,go_sem]) rfl ⟨rfl,kBl⟩
end
end
section
open Go.RowKit
def lightE (E:Ent):Bool:=decide (E.df.length≤1000) && decide (E.nm.size≤1000)
def lightL (L:List Ent):Bool:=decide (L.length≤200) && L.all lightE
theorem zmo {L:List Ent}(h:lightL L=true):∀E ∈ L,fitE E:=by
 intro E hE;simp only[lightL,Bool.and_eq_true,List.all_eq_true] at h
 have:=h.2 E hE
 simp only[lightE,Bool.and_eq_true,decide_eq_true_eq] at this;exact⟨by omega,by omega⟩
theorem zmp {L:List Ent}(h:lightL L=true):L.length≤200:=by
 simp only[lightL,Bool.and_eq_true,decide_eq_true_eq] at h;exact h.1
theorem zmq (A:Option Addr)(n c:Nat)(L:List Ent)(w:World)(hn:n=L.length)(hL:SlE w A L) :
 Calls Tryz.prog 7 #[.slice A n c] w fun e w'=>e= .returned (.bool (lightL L))∧ w=w':=by
 have HN:=zak hn;have HL:=zak hL;by_cases hbig:200 < n
 · have HR:Hid (lightL L=false):=zak (by simp[lightL];omega);clear hn hL;go_enter Tryz.func7,Tryz.ntmps7
   go_wp2_with fail
   go_ret
   exact⟨zav HR.out.symm,rfl⟩
 clear hn hL;go_enter Tryz.func7,Tryz.ntmps7
 go_wp2_with fail
 go_loopw [3] (fun i wr=> ∃k,k≤n∧i= .int .i64 (k:Nat)∧ Hid (∀E ∈ L.take k,lightE E=true)∧ w=wr) (fun i _=>n - (intOf i).toNat)
 case atStart=>exact⟨0,by omega,rfl,zak (by simp),rfl⟩
 case round=>
  obtain⟨k,hk,rfl,HA,rfl⟩:=hrel;by_cases hlt:k < n
  · obtain⟨E,hE⟩:∃E,L[k]? =some E:=⟨L[k]'(by rw[←HN.out];exact hlt),List.getElem?_eq_getElem _⟩;obtain⟨b,off,Aj,cj,rfl,⟨c0,c1,c2,c3,c4,c5,c6,c7,c8,c9,c10⟩,hcj,hsj⟩:=HL.out k E hE;have HT:=zak (zh8 hE);have HM:=zak (List.mem_of_getElem? hE);clear c0 c1 c3 c4 c5 c6 c7 c8 c9 hcj hsj hE;obtain⟨m,hm⟩:∃m,m=E.df.length:=⟨_,rfl⟩;rw[←hm] at c10;have HMM:=zak hm;clear hm;by_cases h1:1000 < m
    · have HR:Hid (lightL L=false):=zak (by
       have:L.all lightE=false:=by rw[List.all_eq_false];exact⟨E,HM.out,by simp[lightE,←HMM.out];omega⟩
       simp[lightL,this])
      go_wp2_with fail
      go_ret
      exact⟨zav HR.out.symm,rfl⟩
    by_cases h2:1000 < E.nm.size
    · have HR:Hid (lightL L=false):=zak (by
       have:L.all lightE=false:=by rw[List.all_eq_false];exact⟨E,HM.out,by simp[lightE];omega⟩
       simp[lightL,this])
      go_wp2_with fail
      go_ret
      exact⟨zav HR.out.symm,rfl⟩
    · have HR:Hid (∀D ∈ L.take (k+1),lightE D=true):=zak (by
       intro D hD;rw[HT.out,List.mem_append,List.mem_singleton] at hD;rcases hD with hD | rfl
       · exact HA.out D hD
       · simp[lightE,←HMM.out];omega)
      go_wp2_with fail
      go_roundw
      case rel=>exact⟨k+1,by omega,by go_num,HR,by trivial⟩
      case measure=>simp[intOf];omega
  · have HR:Hid (lightL L=true):=zak (by
     have h1:=HA.out;rw[List.take_of_length_le (by rw[←HN.out];omega)] at h1;simp only[lightL,Bool.and_eq_true,decide_eq_true_eq,List.all_eq_true];exact⟨by rw[←HN.out];omega,h1⟩)
    go_wp2_with fail
    go_ret
    exact⟨zav HR.out.symm,rfl⟩
end
section
open Go.RowKit
def ValsP (L:List Ent) (V:List (List UInt8)):Prop:= ∀(j:Nat) E v,L[j]? =some E→V[j]? =some v→valC E v=0
theorem zmr {E:Ent}(h:rightE E=0):valC E E.df=0:=by
 unfold rightE at h;unfold valC;split at h
 · omega
 split at h
 · omega
 split at h
 · omega
 split at h
 · omega
 split at h
 · omega
 split at h
 · omega
 · rename_i hh;simpa using hh
theorem zms {L:List Ent}(h:∀E ∈ L,rightE E=0):ValsP L (L.map Ent.df):=by
 intro j E v hE hv;rw[List.getElem?_map,hE] at hv;simp at hv;subst hv;exact zmr (h E (List.mem_of_getElem? hE))
theorem zmt {L:List Ent}{ix sub:Int}{b:List UInt8}{any:Bool}(h:mayC L ix sub b any=0):valC (entK L (locK L ix sub)) b=0:=by
 unfold mayC at h;split at h
 · split at h
   · rename_i h1 h2;exact absurd h h2.2
   · exact h
 · rename_i h1;exact absurd h h1
theorem zmu {L:List Ent}(hs:SortedE L){V:List (List UInt8)}(hV:V.length=L.length)(h:ValsP L V)(ix sub:Int)(b:List UInt8)(any:Bool):ValsP L (putV L V ix sub b any):=by
 intro j E v hE hv;rw[zdq hs hV hE] at hv;split at hv
 · rename_i hp;injection hv with hv
   subst hv;have h1:=zmt hp.2.2;rw[(zdn hs hE ⟨hp.1,hp.2.1⟩).1,zdf hE] at h1;exact h1
 · exact h j E v hE hv
end
section
open Go.RowKit
theorem zmv (t:Int):tySize t≤8:=by unfold tySize;(repeat' split)<;> omega
theorem zmw {E:Ent}{b:List UInt8}(h:valC E b=0):b.length≤256:=by
 unfold valC at h;by_cases hb:0 < tyBits E.ty
 · rw[zgt hb] at h;unfold NumV at h;have h8:=zmv E.ty;by_cases h1:(b.length:Int) < tySize E.ty
   · omega
   · by_cases h2:tySize E.ty < (b.length:Int)
     · exfalso
       have hd:decE E.ty b=3:=by unfold decE;rw[if_neg (by omega),if_neg h1,if_pos h2]
       rw[hd] at h;simp at h
     · omega
 · rw[zgu hb] at h;by_cases hc:checkE E.ty E.mx b=0
   · unfold checkE at hc;split at hc
     · omega
     · split at hc
       · omega
       · omega
   · rw[if_neg hc] at h
     exfalso
     revert h
     (repeat' split)<;> omega
end
section
open Go.RowKit
structure Two (N:Nat) (X:Nat→Prop) (L:List Ent) (V:List (List UInt8)) (pr:Nat) (w:World) (p:Nat) (Fd Fr:Nat→Prop) (gl n cl:Nat) (Av:Option Addr) (cv:Nat) (ds es:List (Option Addr×Nat)) (Al2:Option Addr) (cl2:Nat) (Av2:Option Addr) (cv2:Nat) (ds2 es2:List (Option Addr×Nat)):Prop where
 hn:n=L.length
 d:DB 100 w Fd p (some ⟨gl,0,none⟩) n cl Av cv L V ds es
 r:DB 106 w Fr pr Al2 n cl2 Av2 cv2 L V ds2 es2
 bd:∀g,Fd g→N≤g∧g < w.heap.size∧ ¬X g
 br:∀g,Fr g→N≤g∧g < w.heap.size∧ ¬X g
 dj:∀g,Fd g→ ¬Fr g
def zmx (N:Nat) (X:Nat→Prop) (L:List Ent) (V:List (List UInt8)) (pr:Nat) (w:World) (p:Nat):Prop:=
 ∃Fd Fr gl n cl Av cv ds es Al2 cl2 Av2 cv2 ds2 es2,Two N X L V pr w p Fd Fr gl n cl Av cv ds es Al2 cl2 Av2 cv2 ds2 es2
section
variable {N:Nat} {X Y:Nat→Prop} {L:List Ent} {V:List (List UInt8)} {pr p:Nat} {w w':World}
theorem zmx.below (h:zmx N X L V pr w p)(hb:Below w.heap.size w w'):zmx N X L V pr w' p:=by
 obtain⟨Fd,Fr,gl,n,cl,Av,cv,ds,es,Al2,cl2,Av2,cv2,ds2,es2,h⟩:=h
 have:=hb.size
 exact⟨Fd,Fr,gl,n,cl,Av,cv,ds,es,Al2,cl2,Av2,cv2,ds2,es2,⟨h.hn,h.d.below hb,h.r.below hb,fun g hg=>⟨(h.bd g hg).1,by have:=(h.bd g hg).2.1;omega,(h.bd g hg).2.2⟩,fun g hg=>⟨(h.br g hg).1,by have:=(h.br g hg).2.1;omega,(h.br g hg).2.2⟩,h.dj⟩⟩
theorem zmx.far (h:zmx N X L V pr w p)(ho:zbv X w w'):zmx N X L V pr w' p:=by
 obtain⟨Fd,Fr,gl,n,cl,Av,cv,ds,es,Al2,cl2,Av2,cv2,ds2,es2,h⟩:=h
 have:=ho.size
 exact⟨Fd,Fr,gl,n,cl,Av,cv,ds,es,Al2,cl2,Av2,cv2,ds2,es2,⟨h.hn,h.d.keep (fun g hg hlt=>ho.block g hlt (h.bd g hg).2.2),h.r.keep (fun g hg hlt=>ho.block g hlt (h.br g hg).2.2),fun g hg=>⟨(h.bd g hg).1,by have:=(h.bd g hg).2.1;omega,(h.bd g hg).2.2⟩,fun g hg=>⟨(h.br g hg).1,by have:=(h.br g hg).2.1;omega,(h.br g hg).2.2⟩,h.dj⟩⟩
theorem zmx.exc (h:zmx N X L V pr w p)(hY:∀g,Y g→g < w.heap.size→X g):zmx N Y L V pr w p:=by
 obtain⟨Fd,Fr,gl,n,cl,Av,cv,ds,es,Al2,cl2,Av2,cv2,ds2,es2,h⟩:=h;exact⟨Fd,Fr,gl,n,cl,Av,cv,ds,es,Al2,cl2,Av2,cv2,ds2,es2,⟨h.hn,h.d,h.r,fun g hg=>⟨(h.bd g hg).1,(h.bd g hg).2.1,fun hy=>(h.bd g hg).2.2 (hY g hy (h.bd g hg).2.1)⟩,fun g hg=>⟨(h.br g hg).1,(h.br g hg).2.1,fun hy=>(h.br g hg).2.2 (hY g hy (h.br g hg).2.1)⟩,h.dj⟩⟩
end
section
variable {N:Nat} {X:Nat→Prop} {L:List Ent} {V V1:List (List UInt8)} {pr p:Nat} {w w1 w2:World} {Fd Fr:Nat→Prop} {gl n cl:Nat} {Av:Option Addr} {cv:Nat} {ds es:List (Option Addr×Nat)} {Al2:Option Addr} {cl2:Nat} {Av2:Option Addr} {cv2:Nat} {ds2 es2:List (Option Addr×Nat)}
theorem Two.other (h:Two N X L V pr w p Fd Fr gl n cl Av cv ds es Al2 cl2 Av2 cv2 ds2 es2)(ho:zbv Fd w w1):DB 106 w1 Fr pr Al2 n cl2 Av2 cv2 L V ds2 es2:=
 h.r.keep (fun g hg hlt=>ho.block g hlt (fun hd=>h.dj g hd hg))
theorem Two.both (h:Two N X L V pr w p Fd Fr gl n cl Av cv ds es Al2 cl2 Av2 cv2 ds2 es2)(ho:zbv Fd w w1){es' es2':List (Option Addr×Nat)}(hd:DB 100 w1 (fun g=>Fd g∨w.heap.size≤g) p (some ⟨gl,0,none⟩) n cl Av cv L V1 ds es')
 (ho2:zbv Fr w1 w2) (hr:DB 106 w2 (fun g=>Fr g∨w1.heap.size≤g) pr Al2 n cl2 Av2 cv2 L V1 ds2 es2') (hX:∀g,X g→g < w.heap.size) (hN:N≤w.heap.size):zmx N X L V1 pr w2 p:=by
 have z1:=ho.size;have z2:=ho2.size;refine⟨fun g=>(Fd g∨w.heap.size≤g)∧ g < w1.heap.size,fun g=>(Fr g∨w1.heap.size≤g)∧ g < w2.heap.size,gl,n,cl,Av,cv,ds,es',Al2,cl2,Av2,cv2,ds2,es2',⟨h.hn,?_,hr.mono (fun g h1 h2=>⟨h2,h1⟩),?_,?_,?_⟩⟩
 · refine (hd.mono (G:=fun g=>(Fd g∨w.heap.size≤g)∧ g < w1.heap.size) (fun g h1 h2=>⟨h2,h1⟩)).keep (fun g hg hlt=>ho2.block g hlt (fun hf=>?_));rcases hg.1 with hg | hg
   · exact h.dj g hg hf
   · have:=(h.br g hf).2.1;omega
 · rintro g ⟨hg | hg,hlt⟩
   · exact⟨(h.bd g hg).1,by omega,(h.bd g hg).2.2⟩
   · exact⟨by omega,by omega,fun hx=>by have:=hX g hx;omega⟩
 · rintro g ⟨hg | hg,hlt⟩
   · exact⟨(h.br g hg).1,by omega,(h.br g hg).2.2⟩
   · exact⟨by omega,by omega,fun hx=>by have:=hX g hx;omega⟩
 · rintro g ⟨hg | hg,hlt⟩ ⟨hf | hf,hlt'⟩
   · exact h.dj g hg hf
   · have:=(h.bd g hg).2.1;omega
   · have:=(h.br g hf).2.1;omega
   · omega
end
end
section
open Go.RowKit
theorem zmy (A A2:Option Addr)(n n2 c c2:Nat)(L:List SV)(w:World)(hn:n=L.length)(hn2:n2=L.length)(hc:n≤c)(hc2:n2≤c2)(hb:n≤35184372088)(hL:SlV w A L)(hL2:SlV w A2 L) :
 Calls Tryz.prog 16 #[.slice A n c,.slice A2 n2 c2] w fun e w'=>e= .returned (.bool true)∧ Below w.heap.size w w':=by
 obtain rfl:n=n2:=by omega
 have HN:=zak hn;clear hn hn2;go_enter Tryz.func16,Tryz.ntmps16
 go_wp2_with fail
 go_loopw [5] (fun i wr=> ∃k,k≤n∧i= .int .i64 (k:Nat)∧ Below w.heap.size w wr) (fun i _=>n - (intOf i).toNat)
 case atStart=>exact⟨0,by omega,rfl,Below.refl _ _⟩
 case round=>
  obtain⟨k,hk,rfl,hbr⟩:=hrel;by_cases hlt:k < n
  · obtain⟨v,hv⟩:∃v,L[k]? =some v:=⟨L[k]'(by have:=HN.out;omega),List.getElem?_eq_getElem _⟩;obtain⟨b,off,Aj,cj,rfl,h0,h1,h2,h4,h5⟩:=(hL.below hbr) k v hv;obtain⟨b',off',Aj',cj',rfl,g0,g1,g2,g4,g5⟩:=(hL2.below hbr) k v hv;have HV:=zak hv;clear hv;have k1:=fun nq=>zbu (w:=wr.drewN nq) cj rfl (l:=v.data) (show Sl (wr.drewN nq) Aj (v.data.map bv) from h5)
    have k2:=fun nq=>zbu (w:=wr.drewN nq) cj' rfl (l:=v.data) (show Sl (wr.drewN nq) Aj' (v.data.map bv) from g5)
    obtain⟨i1,i2,i3⟩:=zbk hlt;have hself:(v.ix != v.ix)=false:=by simp
    have hself2:(v.sub != v.sub)=false:=by simp
    go_wp2_with fail
    go_quiet (fail)
    go_wp2_with fail
    go_roundw
    case rel=>exact⟨k+1,by omega,by go_num,zbn hbr _⟩
    case measure=>simp[intOf];omega
  · go_wp2_with fail
    go_ret
    exact⟨rfl,hbr⟩
end
section
open Go.RowKit
theorem zmz:(Tryz.prog.info? 30).map (fun i=>(i.zero,i.size,i.bytes))=some (some (.agg #[.int .i64 0,.int .i64 0,.int .i64 0,.bool false,.bool false,.bool false,.bool false,.int .u32 0,.int .u32 0,.slice none 0 0,.int .i64 0,.int .i64 0,.int .i64 0,.int .u16 0]),14,96):=by kernel_rfl
theorem zm0 (w:World):Calls Tryz.prog 57 #[.slice none 0 0] w fun e w'=>e= .returned (.slice none 0 0)∧ w=w':=by
 go_enter Tryz.func57,Tryz.ntmps57
 go_wp2_with fail
 go_loopw [3,4] (fun s3 s4 wx=>s3= .slice none 0 0∧s4= .int .i64 0∧w=wx) (fun _ _ _=>0)
 case atStart=>exact⟨rfl,rfl,rfl⟩
 case round=>
  obtain⟨rfl,rfl,rfl⟩:=hrel;go_wp2_with fail
  go_ret
  exact⟨rfl,rfl⟩
theorem zm1 (M:Ms)(A1 A2:Option Addr)(n1 c1 n2 c2:Nat)(w:World)(hn1:n1=M.data.length)(hn2:n2=M.data.length)(h1:Sl w A1 (M.data.map bv))(h2:Sl w A2 (M.data.map bv)) :
 Calls Tryz.prog 118 #[.agg (msV M A1 n1 c1),.agg (msV M A2 n2 c2)] w fun e w'=>e= .returned (.bool true)∧ Below w.heap.size w w':=by
 have hbw:=za7 (za7 (Below.refl w.heap.size w) (.cells (msV M A1 n1 c1) 30)) (.cells (msV M A2 n2 c2) 30);obtain⟨k1,k2⟩:=zbg w 30 30 (msV M A1 n1 c1) (msV M A2 n2 c2);have t1:∀W,Below w.heap.size w W→(convert 27 9 (.slice A1 n1 c1)).run Tryz.prog W= .ok (.string ⟨M.data.toArray⟩) W:=fun W h=>zbu c1 hn1 (h1.below h)
 have t2:∀W,Below w.heap.size w W→(convert 27 9 (.slice A2 n2 c2)).run Tryz.prog W= .ok (.string ⟨M.data.toArray⟩) W:=fun W h=>zbu c2 hn2 (h2.below h)
 replace t1:=t1 _ hbw;replace t2:=t2 _ hbw;clear hn1 hn2 h1 h2;obtain⟨kind,ix,sub,tg,la,cr,sz,size,code,data,sq,bl,em,sum⟩:=M;unfold msV at *
 dsimp only at *
 obtain⟨am,ai,aj,an,ah,ak,al,ao,ap,aq,aa,ab,ac,ae⟩:=zbd k1;have aD:=k1.frozen;obtain⟨aF,aG,aH,aI,aJ,js,jt,ju,jv,jw,iE,iF,iG,iH⟩:=zbd k2;have aP:=k2.frozen;go_enter Tryz.func118,Tryz.ntmps118
 go_wp2_with fail
 all_goals
  go_ret
  exact⟨rfl,hbw⟩
theorem zm2 (w:World):Calls Tryz.prog 56 #[.slice none 0 0,.slice none 0 0] w fun e w'=>e= .returned (.bool true)∧ w=w':=by
 go_enter Tryz.func56,Tryz.ntmps56
 go_wp2_with fail
 go_loopw [5] (fun s5 wx=>s5= .int .i64 0∧w=wx) (fun _ _=>0)
 case atStart=>exact⟨rfl,rfl⟩
 case round=>
  obtain⟨rfl,rfl⟩:=hrel;go_wp2_with fail
  go_ret
  exact⟨rfl,rfl⟩
theorem zm3 {L:List Ent}{V:List (List UInt8)}(h:ValsP L V)(hl:V.length=L.length):∀v ∈ V,v.length≤256:=by
 intro v hv;obtain⟨j,hj,rfl⟩:=List.getElem_of_mem hv;exact zmw (h j _ _ (List.getElem?_eq_getElem (by omega)) (List.getElem?_eq_getElem hj))
theorem zmx.grow {N:Nat}{X G':Nat→Prop}{L:List Ent}{V:List (List UInt8)}{pt pd:Nat}{W:World}(h:zmx N X L V pt W pd)(hX:∀q,q < W.heap.size→G' q→X q):zmx N G' L V pt W pd:=h.exc (fun q a b=>hX q b a)
theorem zm4 {F:Nat→Prop}{w w':World}(h:zbv F w.drew w'):zbv F w w':=⟨h.os,h.tape,h.output,h.size,h.block⟩
theorem zm5 (E:Ent)(b:List UInt8):0≤valC E b:=by
 unfold valC valueE
 (repeat' split)<;> omega
theorem zm6 (L:List Ent)(ix sub:Int)(b:List UInt8)(any:Bool):∃k:Nat,mayC L ix sub b any=(k:Int):=⟨(mayC L ix sub b any).toNat,by
 have:0≤mayC L ix sub b any:=by
  unfold mayC codeL
  (repeat' split)<;> first | omega | exact zm5 _ _ | (unfold writeE;(repeat' split)<;> omega)
 omega⟩
def opV (k:Int) (M:Ms) (A3:Option Addr) (m3 c3 code:Nat):Array Value:=#[.int .i64 k,.int .i64 M.kind,.int .i64 M.ix,.int .i64 M.sub,.bool M.tg,.bool M.la,.bool M.cr,.bool M.sz,.int .u32 (M.size:Nat),.int .u32 (M.code:Nat),.slice A3 m3 c3,.int .i64 M.sq,.int .i64 M.bl,.int .i64 M.em,.int .u16 (M.sum:Nat),.int .u32 (code:Nat)]
theorem one_d {M:Ms}(h:M.data.length≤200000):∀K ∈ (outM M).ms,K.data.length≤200000:=by
 intro K hK;have hK:K ∈ [M]:=hK;simp at hK;subst hK;exact h
theorem zm7 {w:World}{g:Nat}{ix sub:Int}{A:Option Addr}{n c:Nat}{b:List UInt8}(hB:Blk w g 46 #[.int .i64 ix,.int .i64 sub,.slice A n c])(hn:n=b.length)(hc:n≤c)(hs:Sl w A (b.map bv)):SlV w (some ⟨g,0,none⟩) [⟨ix,sub,b⟩]:=by
 intro j v hj;have hj0:j=0:=by
  have:=(List.getElem?_eq_some_iff.1 hj).1
  simp at this;exact this
 subst hj0;injection hj with hj
 subst hj;subst hn;exact⟨g,0,A,c,rfl,hB.cell 0 rfl,hB.cell 1 rfl,hB.cell 2 rfl,hc,hs⟩
end
end Go.Proofs.YtkkpjbjmhaecjaaGreat
