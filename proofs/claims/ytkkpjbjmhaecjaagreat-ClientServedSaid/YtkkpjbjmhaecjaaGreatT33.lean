/- None -/
import Derived.Test.YtkkpjbjmhaecjaaGreatT32
namespace Go.Proofs.YtkkpjbjmhaecjaaGreat
set_option linter.all false
set_option maxRecDepth 100000
set_option maxHeartbeats 8000000
section
open Go.RowKit Go.Maps
theorem zpd (k:Int)(w:World):Calls Tryz.prog 180 #[.int .i64 k] w fun e w'=>e= .returned (.bool (sdSeg k))∧ w=w':=by
 by_cases h:2≤k
 · have hd:=decide_eq_true h;go_enter Tryz.func180,Tryz.ntmps180
   go_wp2_with fail
   go_ret
   exact⟨by unfold sdSeg;simp[h],rfl⟩
 · have hd:=decide_eq_false h;go_enter Tryz.func180,Tryz.ntmps180
   go_wp2_with fail
   go_ret
   have h': ¬(2≤k):=by omega
   exact⟨by unfold sdSeg;rw[decide_eq_false h',Bool.false_and];rfl,rfl⟩
theorem zpe (k:Int)(w:World):Calls Tryz.prog 181 #[.int .i64 k] w fun e w'=>e= .returned (.bool (sdBeg k))∧ w=w':=by
 have hcs:k=2∨k=4∨k=6∨k=8∨(k≠2∧k≠4∧k≠6∧k≠8):=by omega
 rcases hcs with rfl | rfl | rfl | rfl | ⟨h1,h2,h3,h4⟩
 iterate 4
  · go_enter Tryz.func181,Tryz.ntmps181
    go_wp2_with fail
    go_ret
    exact⟨rfl,rfl⟩
 · have e1:(k == 2)=false:=by simp[h1]
   have e2:(k == 4)=false:=by simp[h2]
   have e3:(k == 6)=false:=by simp[h3]
   have e4:(k == 8)=false:=by simp[h4]
   have HD:Hid (sdBeg k=false):=zak (by unfold sdBeg;simp[h1,h2,h3,h4]);clear h1 h2 h3 h4;go_enter Tryz.func181,Tryz.ntmps181
   go_wp2_with fail
   go_ret
   exact⟨by rw[HD.out];rfl,rfl⟩
def DOutR (w:World) (G:Nat→Prop) (p ps pb pd:Nat) (X':SdoS) (O:SegO) (e:Ending) (w':World):Prop:=
 ∃Y As ns cs ds A n c,e= .returned (.agg (outV As ns cs O A n c))∧ MsG w' w.heap.size Y As ns cs O.ms ds∧zdv w' w.heap.size A n c O.b∧FIn Y A∧(∀q,Y q→w.heap.size≤q)∧ DV w' (fun g=>(G g∨w.heap.size≤g)∧ ¬Y g) p ps pb pd X'∧zd0 (fun g=>g=ps∨g=pb) w w'
theorem MsG.mono {w:World}{N N':Nat}{X Y:Nat→Prop}{As:Option Addr}{ns cs:Nat}{l:List Ms}{ds:List (Option Addr×Nat)}(h:MsG w N X As ns cs l ds)(hY:∀q,X q→N≤q→Y q)(hN:N'≤N):MsG w N' Y As ns cs l ds:=by
 refine⟨h.1.mono (fun g _ hg=>Nat.le_trans hN hg),fun d hd q hq=>?_⟩;obtain⟨j,hj,rfl⟩:=List.getElem_of_mem hd;obtain⟨v,hv⟩:∃v,l[j]? =some v:=⟨l[j]'(by rw[←h.1.1.hd];exact hj),List.getElem?_eq_getElem _⟩;exact hY q (h.2 _ hd q hq) ((h.1.1.data j v _ hv (List.getElem?_eq_getElem hj)).2 q hq)
section
variable {w W w':World} {G:Nat→Prop} {p ps pb pd:Nat} {X:SdoS} {O:SegO} {e:Ending}
theorem zpf {S':SegS}(h:DV w G p ps pb pd X)(hs:SOutR w G ps pd S' O e w'):DOutR w G p ps pb pd { X with sg:=S' } O e w':=by
 obtain⟨Y,As,ns,cs,A,n,c,rfl,h1,h2,h3,h4,h5⟩:=hs;obtain⟨ds,h1⟩:=znv h1;have hlt:=h.lt;refine⟨fun q=>Y q∧w.heap.size≤q,As,ns,cs,ds,A,n,c,rfl,h1.mono (fun q hq hl=>⟨hq,hl⟩) (Nat.le_refl _),h2,fun q hq=>⟨h3 q hq,(h2.own.fin q hq).1⟩,fun q hq=>hq.2,⟨(h5.block p hlt.1 h.ne.1).trans h.blk,h4.kept (fun _ _ _=>rfl) (Nat.le_refl _) (fun q _ hq=>⟨hq.1,fun hy=>hq.2 hy.1⟩),h.bkv.keep (fun q hq hl=>h5.block q hl (by rcases hq with rfl | hq;exact fun e=>h.ne.2.2 e.symm;exact fun e=>h.ng.2.1 (e ▸ hq))) h5.size (fun q hl hq=>⟨.inl hq,fun hy=>by have:=hy.2;omega⟩),h.ne,?_⟩,h5.mono (fun q _ h=> .inl h)⟩;exact⟨fun hg=>hg.1.elim h.ng.1 (fun h=>by omega),fun hg=>hg.1.elim h.ng.2.1 (fun h=>by omega),fun hg=>hg.1.elim h.ng.2.2 (fun h=>by omega)⟩
theorem zpg {S':BlkS}(h:DV w G p ps pb pd X)(hs:BOutG w G pb pd S' O e w'):DOutR w G p ps pb pd { X with bk:=S' } O e w':=by
 obtain⟨Y,As,ns,cs,ds,A,n,c,rfl,h1,h2,h3,h4,h5⟩:=hs;have hlt:=h.lt;refine⟨fun q=>Y q∧w.heap.size≤q,As,ns,cs,ds,A,n,c,rfl,h1.mono (fun q hq hl=>⟨hq,hl⟩) (Nat.le_refl _),h2,fun q hq=>⟨h3 q hq,(h2.own.fin q hq).1⟩,fun q hq=>hq.2,⟨(h5.block p hlt.1 h.ne.2.1).trans h.blk,h.seg.kept (fun q hq hl=>h5.block q hl (by rcases hq with rfl | hq;exact h.ne.2.2;exact fun e=>h.ng.2.2 (e ▸ hq))) h5.size (fun q hl hq=>⟨.inl hq,fun hy=>by have:=hy.2;omega⟩),h4.keep (fun _ _ _=>rfl) (Nat.le_refl _) (fun q _ hq=>⟨hq.1,fun hy=>hq.2 hy.1⟩),h.ne,?_⟩,h5.mono (fun q _ h=> .inr h)⟩;exact⟨fun hg=>hg.1.elim h.ng.1 (fun h=>by omega),fun hg=>hg.1.elim h.ng.2.1 (fun h=>by omega),fun hg=>hg.1.elim h.ng.2.2 (fun h=>by omega)⟩
end
def DX (w:World) (G:Nat→Prop) (p ps pb pd:Nat) (M:Ms) (A3:Option Addr) (m3 c3:Nat) (X:SdoS) (W:World):Prop:=
 zd0 (fun q=>q=ps∨q=pb) w W∧DV W (fun q=>G q∧q < w.heap.size) p ps pb pd X∧Blk W w.heap.size 95 (msV M A3 m3 c3)∧ Blk W (w.heap.size+1) 93 (outV none 0 0 outZ none 0 0)∧ w.heap.size+2≤W.heap.size
section
variable {w W w':World} {G:Nat→Prop} {p ps pb pd:Nat} {X X':SdoS} {O:SegO} {e:Ending} {M:Ms} {A3:Option Addr} {m3 c3:Nat}
theorem dx_mk (h:DV w G p ps pb pd X)(M:Ms)(A3:Option Addr)(m3 c3:Nat):DX w G p ps pb pd M A3 m3 c3 X ((w.alloc (.cells (msV M A3 m3 c3) 95)).alloc (.cells (outV none 0 0 outZ none 0 0) 93)):=by
 obtain⟨k1,k2⟩:=zdh w 95 93 (msV M A3 m3 c3) (outV none 0 0 outZ none 0 0);have hb:=zc5 (zc5 (Below.refl w.heap.size w) (.cells (msV M A3 m3 c3) 95)) (.cells (outV none 0 0 outZ none 0 0) 93);exact⟨zd0.of_below hb,h.step hb,k1,k2,by simp⟩
theorem DX.to_ (h:DX w G p ps pb pd M A3 m3 c3 X W)(hl:p < w.heap.size∧ps < w.heap.size∧pb < w.heap.size)(hD:DV w' (fun q=>G q∧q < w.heap.size) p ps pb pd X')(ho:zd0 (fun q=>q=ps∨q=pb) W w'):DX w G p ps pb pd M A3 m3 c3 X' w':=
 ⟨h.1.trans ho (fun _ _ h=>h),hD,(ho.block _ h.2.2.1.lt (by omega)).trans h.2.2.1,(ho.block _ h.2.2.2.1.lt (by omega)).trans h.2.2.2.1,Nat.le_trans h.2.2.2.2 ho.size⟩
theorem DX.fin (h:DX w G p ps pb pd M A3 m3 c3 X W)(hl:p < w.heap.size∧ps < w.heap.size∧pb < w.heap.size){Y:Nat→Prop}{As:Option Addr}{ns cs:Nat}{ds:List (Option Addr×Nat)}{A:Option Addr}{n c:Nat}(h1:MsG w' W.heap.size Y As ns cs O.ms ds)(h2:zdv w' W.heap.size A n c O.b)(h3:FIn Y A)(hY:∀q,Y q→W.heap.size≤q)(h4:DV w' (fun g=>((G g∧g < w.heap.size)∨ W.heap.size≤g)∧ ¬Y g) p ps pb pd X')(h5:zd0 (fun g=>g=ps∨g=pb) W w') :
 Blk (putO w' (w.heap.size+1) As ns cs O A n c) (w.heap.size+1) 93 (outV As ns cs O A n c)∧ DOutR w G p ps pb pd X' O (.returned (.agg (outV As ns cs O A n c))) (putO w' (w.heap.size+1) As ns cs O A n c):=by
 have hz:=h.2.2.2.2;have hK3:Blk w' (w.heap.size+1) 93 (outV none 0 0 outZ none 0 0):=(h5.block _ h.2.2.2.1.lt (by omega)).trans h.2.2.2.1;have hlo:∀q,((G q∧q < w.heap.size)∨ W.heap.size≤q)∧ ¬Y q→q≠w.heap.size+1:=by
  rintro q ⟨h1 | h1,_⟩<;> omega
 have hsz:w'.heap.size≤(putO w' (w.heap.size+1) As ns cs O A n c).heap.size:=by rw[zku];exact Nat.le_refl _
 refine⟨zj3 hK3,Y,As,ns,cs,ds,A,n,c,rfl,⟨(h1.1.keep (fun g hg _=>zkt (show g≠w.heap.size+1 by omega) _ _ _ _ _ _ _)).mono (fun g _ hg=>by omega),h1.2⟩,(zj6 h2 (by omega) _ _ _ _ _ _ _).mono (by omega),h3,fun q hq=>by have:=hY q hq;omega,⟨(zkt (by omega) _ _ _ _ _ _ _).trans h4.blk,?_,?_,h4.ne,?_⟩,zj5 (h.1.trans h5 (fun _ _ h=>h)) (by omega) _ _ _ _ _ _ _⟩
 · refine h4.seg.kept (fun q hq hlt=>zkt ?_ _ _ _ _ _ _ _) hsz (fun q _ hq=>⟨?_,hq.2⟩)
   · rcases hq with rfl | hq
     · omega
     · exact hlo q hq
   · rcases hq.1 with h | h
     · exact .inl h.1
     · exact .inr (by omega)
 · refine h4.bkv.keep (fun q hq hlt=>zkt ?_ _ _ _ _ _ _ _) hsz (fun q _ hq=>⟨?_,hq.2⟩)
   · rcases hq with rfl | hq
     · omega
     · exact hlo q hq
   · rcases hq.1 with h | h
     · exact .inl h.1
     · exact .inr (by omega)
 · have hng:=h4.ng;refine⟨fun hg=>?_,fun hg=>?_,fun hg=>?_⟩
   · rcases hg.1 with h | h
     · exact hng.1 ⟨.inl ⟨h,hl.1⟩,hg.2⟩
     · omega
   · rcases hg.1 with h | h
     · exact hng.2.1 ⟨.inl ⟨h,hl.2.1⟩,hg.2⟩
     · omega
   · rcases hg.1 with h | h
     · exact hng.2.2 ⟨.inl ⟨h,hl.2.2⟩,hg.2⟩
     · omega
end
theorem DX.step {w W w':World}{G:Nat→Prop}{p ps pb pd:Nat}{X:SdoS}{M:Ms}{A3:Option Addr}{m3 c3:Nat}(h:DX w G p ps pb pd M A3 m3 c3 X W)(hb:Below W.heap.size W w'):DX w G p ps pb pd M A3 m3 c3 X w':=
 ⟨h.1.step hb,⟨h.2.1.blk.below hb h.2.1.lt.1,h.2.1.seg.kept (fun q _ hl=>hb.block q hl) hb.size (fun _ _ g=>g),h.2.1.bkv.keep (fun q _ hl=>hb.block q hl) hb.size (fun _ _ g=>g),h.2.1.ne,h.2.1.ng⟩,h.2.2.1.below hb h.2.2.1.lt,h.2.2.2.1.below hb h.2.2.2.1.lt,Nat.le_trans h.2.2.2.2 hb.size⟩
theorem DV.wide {w:World}{G:Nat→Prop}{p ps pb pd:Nat}{X:SdoS}(h:DV w G p ps pb pd X){N:Nat}(hl:p < N∧ps < N∧pb < N):DV w (fun g=>(G g∨N≤g)∧ ¬False) p ps pb pd X:=
 ⟨h.blk,h.seg.kept (fun _ _ _=>rfl) (Nat.le_refl _) (fun q _ hq=>⟨.inl hq,id⟩),h.bkv.keep (fun _ _ _=>rfl) (Nat.le_refl _) (fun q _ hq=>⟨.inl hq,id⟩),h.ne,⟨fun hg=>hg.1.elim h.ng.1 (fun h=>by omega),fun hg=>hg.1.elim h.ng.2.1 (fun h=>by omega),fun hg=>hg.1.elim h.ng.2.2 (fun h=>by omega)⟩⟩
def DicW (w:World) (ps pb:Nat) (P:World→Prop):Prop:= ∀W,zd0 (fun q=>q=ps∨q=pb) w W→P W
section
variable {F:Nat→Prop} {pd gl n cl cv:Nat} {Av:Option Addr} {L:List Ent} {V:List (List UInt8)} {ds es:List (Option Addr×Nat)} {w:World} {G:Nat→Prop} {p ps pb:Nat} {X:SdoS}
theorem zph (M:Ms)(A3:Option Addr)(m3 c3:Nat)(h:DV w G p ps pb pd X)(hW:zn6 X.sg∧BWf X.bk)(hM:BMOk M)(hD:DB 100 w F pd (some ⟨gl,0,none⟩) n cl Av cv L V ds es)(hs:SortedE L)(hn:n≤1000)(hv:∀v ∈ V,v.length≤256)(hF: ¬F ps∧ ¬F pb)
 (hm:m3=M.data.length) (hm1:m3≤100000) (hMd:DicW w ps pb fun W=>Sl W A3 (M.data.map bv)) :
 Calls Tryz.prog 126 #[.pointer (some ⟨p,0,none⟩),.agg (msV M A3 m3 c3)] w (DOutR w G p ps pb pd (sdDS L V X M) (sdDO L V X M)):=by
 obtain⟨P,hP⟩:∃P,P=DOutR w G p ps pb pd (sdDS L V X M) (sdDO L V X M):=⟨_,rfl⟩;have HP:Hid (∀X' O e w',sdDS L V X M=X'→sdDO L V X M=O→DOutR w G p ps pb pd X' O e w'→P e w'):=zak (by
  intro X' O e w' h1 h2 h3;rw[hP,h1,h2];exact h3)
 rw[←hP];have HX:=zak (dx_mk h M A3 m3 c3);have hl:=h.lt;have HL:=zak hl;have HW:=zak hW;have HM:=zak hM;have HD:=zak (show DicW w ps pb fun W=>DB 100 W F pd (some ⟨gl,0,none⟩) n cl Av cv L V ds es from fun W ho=>hD.keep (fun g hg hlt=>ho.block g hlt (fun e=>by rcases e with rfl | rfl;exact hF.1 hg;exact hF.2 hg)));have HSO:=zak hs;have HN:=zak hn;have HV:=zak hv;have HF:=zak hF;have HMD:=zak hMd;have HMN:=zak hm;have hmf:∀(fn:Fn) (first cap:Array Value) (w:World),(Instr.makeFunc fn first cap).run Tryz.prog w= .ok (.func fn first cap) w:=fun _ _ _ _=>rfl
 have HSeg:Hid (∀W X1,DX w G p ps pb pd M A3 m3 c3 X1 W→zn6 X1.sg→Calls Tryz.prog 179 #[.pointer (some ⟨ps,0,none⟩),.agg (msV M A3 m3 c3)] W (DOutR W (fun q=>G q∧q < w.heap.size) p ps pb pd { X1 with sg:=recvS L V X1.sg M } (recvO L V X1.sg M))):=zak (fun W X1 h1 h2=>
  (zlz ps X1.sg (fun q=>G q∧q < w.heap.size) M A3 m3 c3 W (HD.out W h1.1) hs hn hv hF.1 h1.2.1.seg hm hm1 (fun W' ho=>hMd W' (h1.1.trans (ho.mono (fun _ _ h=>Or.inl h)) (fun _ _ h=>h))) hM.size h2.bytes).mono fun e w' h3=>zpf h1.2.1 h3)
 have HBlk:Hid (∀W X1,DX w G p ps pb pd M A3 m3 c3 X1 W→BWf X1.bk→Calls Tryz.prog 36 #[.pointer (some ⟨pb,0,none⟩),.agg (msV M A3 m3 c3)] W (DOutR W (fun q=>G q∧q < w.heap.size) p ps pb pd { X1 with bk:=brS L V X1.bk M } (brO L V X1.bk M))):=zak (fun W X1 h1 h2=>
  (znz pb X1.bk (fun q=>G q∧q < w.heap.size) M A3 m3 c3 W (HD.out W h1.1) hs hn hv hF.2 h1.2.1.bkv h2 hM hm hm1 (fun W' ho=>hMd W' (h1.1.trans (ho.mono (fun _ _ h=>Or.inr h)) (fun _ _ h=>h)))).mono fun e w' h3=>zpg h1.2.1 h3)
 clear hP h hW hM hD hs hn hv hF hm hMd;obtain⟨kd,ix,sub,tg,la,cr,sz,size,code,data,sq,bl,em,sum⟩:=M;unfold msV outV outZ at HX;unfold msV at HSeg HBlk ⊢;go_enter Tryz.func126,Tryz.ntmps126
 go_upto_region 1 with fail
 refine zed (P:=DX w G p ps pb pd (⟨kd,ix,sub,tg,la,cr,sz,size,code,data,sq,bl,em,sum⟩:Ms) A3 m3 c3 X) HX.out (fun W hX=>?_);clear HX;have HX:=zak hX;have k1:=hX.2.2.1;have zW:=hX.2.1.lt;have zk1:=k1.lt;have zo1:=hX.2.2.2.1.lt;have c0:W.cell? ⟨p,0,none⟩=some (.pointer (some ⟨ps,0,none⟩)):=hX.2.1.blk.cell 0 rfl;have c1:W.cell? ⟨p,1,none⟩=some (.pointer (some ⟨pb,0,none⟩)):=hX.2.1.blk.cell 1 rfl;unfold msV at k1;dsimp only at k1;obtain⟨ai,af,ag,am,ah,aj,an,ao,ap,aq,aa,ab,ac,ae⟩:=zde k1;have aM:=k1.frozen;clear hX
 go_quiet (fail)
 go_wp2_with fail
 go_quiet (fail)
 go_upto_region 3 with fail
 refine zed (P:=DX w G p ps pb pd (⟨kd,ix,sub,tg,la,cr,sz,size,code,data,sq,bl,em,sum⟩:Ms) A3 m3 c3 X) (HX.out.step kBl) (fun W2 hX=>?_);clear ai af ag am ah aj an ao ap aq aa ab ac ae aM;clear k1 zW zk1 zo1 c0 c1;clear HX;have HX:=zak hX;have k1:=hX.2.2.1;have zW:=hX.2.1.lt;have zk1:=k1.lt;have zo1:=hX.2.2.2.1.lt;have c0:W2.cell? ⟨p,0,none⟩=some (.pointer (some ⟨ps,0,none⟩)):=hX.2.1.blk.cell 0 rfl;have c1:W2.cell? ⟨p,1,none⟩=some (.pointer (some ⟨pb,0,none⟩)):=hX.2.1.blk.cell 1 rfl;unfold msV at k1;dsimp only at k1;obtain⟨ai,af,ag,am,ah,aj,an,ao,ap,aq,aa,ab,ac,ae⟩:=zde k1;have aM:=k1.frozen;clear hX
 go_wp2_with fail
 refine (zpd _ _).mono ?_;rintro e w1 ⟨rfl,hw⟩;subst hw;cases hsb:sdSeg kd
 · have HSB:=zak hsb;clear hsb;go_wp2_with fail
   go_quiet (fail)
   go_wp2_with fail
   go_quiet (fail)
   go_upto_region 6 with fail
   refine zed (P:=DX w G p ps pb pd (⟨kd,ix,sub,tg,la,cr,sz,size,code,data,sq,bl,em,sum⟩:Ms) A3 m3 c3 X) (HX.out.step kBl) (fun W3 hX=>?_);clear ai af ag am ah aj an ao ap aq aa ab ac ae aM;clear k1 zW zk1 zo1 c0 c1;clear HX;have HX:=zak hX;have k1:=hX.2.2.1;have zW:=hX.2.1.lt;have zk1:=k1.lt;have zo1:=hX.2.2.2.1.lt;have c0:W3.cell? ⟨p,0,none⟩=some (.pointer (some ⟨ps,0,none⟩)):=hX.2.1.blk.cell 0 rfl;have c1:W3.cell? ⟨p,1,none⟩=some (.pointer (some ⟨pb,0,none⟩)):=hX.2.1.blk.cell 1 rfl;unfold msV at k1;dsimp only at k1;obtain⟨ai,af,ag,am,ah,aj,an,ao,ap,aq,aa,ab,ac,ae⟩:=zde k1;have aM:=k1.frozen
   clear hX;by_cases hk:kd=1
   · subst hk;go_wp2_with fail
     refine (zn1 HX.out.2.1).mono ?_;rintro e w5 ⟨rfl,h1,h2⟩;have F:=HX.out.fin (O:=outZ) HL.out (znt _ _ (fun _=>False)) (zdv.nil _ _) (FIn.nil _) (fun _ h=>h.elim) (h1.wide HX.out.2.1.lt) h2;have k5:Blk w5 (w.heap.size+1) 93 (outV none 0 0 outZ none 0 0):=(h2.block _ HX.out.2.2.2.1.lt (by omega)).trans HX.out.2.2.2.1;clear ai af ag am ah aj an ao ap aq aa ab ac ae aM;clear k1 zW zk1 zo1 c0 c1;clear h1 h2;have HF:=zak F;clear F;unfold outV outZ at k5;obtain⟨bB,bC,bD,bU,bV⟩:=zc9 k5;have cE:=k5.frozen;go_wp2_with fail
     obtain⟨F1,F2⟩:=HF.out;have F3:=HP.out _ _ _ _ (by unfold sdDS;rw[if_pos rfl]<;> rfl) (by unfold sdDO;rw[if_pos rfl]) F2;unfold putO at F1 F3;refine zj2 (O:=(⟨[],false,0,0,[]⟩:SegO)) rfl rfl rfl F1 ?_;exact F3
   · have d1:(kd == 1)=false:=by simp[hk]
     have HK1:=zak hk;clear hk;go_wp2_with fail
     refine (zpe _ _).mono ?_;rintro e w1 ⟨rfl,hw⟩;subst hw;obtain⟨A1,n1,q1,hB⟩:=HX.out.2.1.seg.blk_;cases hbg:sdBeg kd
     · have HBG:=zak hbg;clear hbg;go_wp2_with fail
       refine (zj8 ps pd X.sg _ _ _ _ hB).mono ?_;rintro e w1 ⟨rfl,hw⟩;subst hw;by_cases hs:X.sg.st=0
       · have hq:(X.sg.st != 0)=false:=by simp[hs]
         have HSZ:=zak hs;rw[hq];clear hq hs hB;have HXb:=HX;go_wp2_with fail
         refine (HBlk.out _ _ HXb.out HW.out.2).mono ?_;rintro e w5 ⟨Y,As,ns,cs,ds1,A5,n5,c5,rfl,h1,h2,h3,h4,h5,h6⟩;have F:=HXb.out.fin HL.out h1 h2 h3 h4 h5 h6;have k5:Blk w5 (w.heap.size+1) 93 (outV none 0 0 outZ none 0 0):=(h6.block _ HXb.out.2.2.2.1.lt (by omega)).trans HXb.out.2.2.2.1;unfold outV;dsimp only;clear ai af ag am ah aj an ao ap aq aa ab ac ae aM;clear k1 zW zk1 zo1 c0 c1;clear h1 h2 h3 h4 h5 h6;have HF:=zak F;clear F;unfold outV outZ at k5;obtain⟨bB,bC,bD,bU,bV⟩:=zc9 k5;have cE:=k5.frozen;go_wp2_with fail
         obtain⟨F1,F2⟩:=HF.out;have F3:=HP.out _ _ _ _ (by unfold sdDS;rw[if_neg HK1.out,if_neg (fun h=>by rw[HSB.out] at h;cases h),if_neg (fun h=>by rw[HBG.out] at h;cases h),if_neg (fun h=>h HSZ.out)]) (by unfold sdDO;rw[if_neg HK1.out,if_neg (fun h=>by rw[HSB.out] at h;cases h),if_neg (fun h=>by rw[HBG.out] at h;cases h),if_neg (fun h=>h HSZ.out)]) F2;unfold putO at F1 F3;refine zj2 (O:=_) rfl rfl rfl F1 ?_;exact F3
       · have hq:(X.sg.st != 0)=true:=by simp[hs]
         have HSZ:=zak hs;rw[hq];clear hq hs;go_wp2_with fail
         refine (zkb ps pd X.sg 84148225 _ _ _ _ hB).mono ?_;rintro e w5 ⟨_,h2⟩;obtain⟨g,hg,rfl,hM5,hB1,ho⟩:=h2 HSZ.out;have ho2:zd0 (fun q=>q=ps∨q=pb) W3 w5:=ho.mono (fun q _ h=>Or.inl h);have F:=HX.out.fin (O:=outM (abM X.sg.ix X.sg.sub 84148225)) HL.out (znu (X:=fun _=>False) hg hM5 (zdv.nil _ _) (FIn.nil _)) (zdv.nil _ _) (FIn.nil _) (fun _ h=>h.elim) (DV.wide (HX.out.2.1.seg_ (SV_.idle_ hB1 rfl) ho) HX.out.2.1.lt) ho2;have k5:Blk w5 (w.heap.size+1) 93 (outV none 0 0 outZ none 0 0):=(ho2.block _ HX.out.2.2.2.1.lt (by omega)).trans HX.out.2.2.2.1;clear ai af ag am ah aj an ao ap aq aa ab ac ae aM
         clear k1 zW zk1 zo1 c0 c1;clear h2 hM5 hB1 ho ho2 hB;have HF:=zak F;clear F;unfold outV outZ at k5;obtain⟨bB,bC,bD,bU,bV⟩:=zc9 k5;have cE:=k5.frozen;go_wp2_with fail
         obtain⟨F1,F2⟩:=HF.out;have F3:=HP.out _ _ _ _ (by unfold sdDS;rw[if_neg HK1.out,if_neg (fun h=>by rw[HSB.out] at h;cases h),if_neg (fun h=>by rw[HBG.out] at h;cases h),if_pos HSZ.out]<;> rfl) (by unfold sdDO;rw[if_neg HK1.out,if_neg (fun h=>by rw[HSB.out] at h;cases h),if_neg (fun h=>by rw[HBG.out] at h;cases h),if_pos HSZ.out]<;> rfl) F2;unfold putO at F1 F3;refine zj2 (O:=(⟨[],false,0,0,[]⟩:SegO)) rfl rfl rfl F1 ?_;exact F3
     · have HBG:=zak hbg;clear hbg;go_wp2_with fail
       refine (zkc ps pd X.sg _ _ _ _ hB).mono ?_;rintro e w4 ⟨rfl,hB1,ho⟩;have HXb:=zak (HX.out.to_ HL.out (HX.out.2.1.seg_ (SV_.idle_ hB1 rfl) ho) (ho.mono (fun q _ h=>Or.inl h)));clear ai af ag am ah aj an ao ap aq aa ab ac ae aM;clear k1 zW zk1 zo1 c0 c1;clear hB hB1 ho;have hX:=HXb.out;have k1:=hX.2.2.1;have zW:=hX.2.1.lt;have zk1:=k1.lt;have zo1:=hX.2.2.2.1.lt;have c0:w4.cell? ⟨p,0,none⟩=some (.pointer (some ⟨ps,0,none⟩)):=hX.2.1.blk.cell 0 rfl;have c1:w4.cell? ⟨p,1,none⟩=some (.pointer (some ⟨pb,0,none⟩)):=hX.2.1.blk.cell 1 rfl;unfold msV at k1;dsimp only at k1;obtain⟨ai,af,ag,am,ah,aj,an,ao,ap,aq,aa,ab,ac,ae⟩:=zde k1
       have aM:=k1.frozen;clear hX;try dsimp only
       go_wp2_with fail
       refine (HBlk.out _ _ HXb.out HW.out.2).mono ?_;rintro e w5 ⟨Y,As,ns,cs,ds1,A5,n5,c5,rfl,h1,h2,h3,h4,h5,h6⟩;have F:=HXb.out.fin HL.out h1 h2 h3 h4 h5 h6;have k5:Blk w5 (w.heap.size+1) 93 (outV none 0 0 outZ none 0 0):=(h6.block _ HXb.out.2.2.2.1.lt (by omega)).trans HXb.out.2.2.2.1;unfold outV;dsimp only;clear ai af ag am ah aj an ao ap aq aa ab ac ae aM;clear k1 zW zk1 zo1 c0 c1;clear h1 h2 h3 h4 h5 h6;have HF:=zak F;clear F;unfold outV outZ at k5;obtain⟨bB,bC,bD,bU,bV⟩:=zc9 k5;have cE:=k5.frozen;go_wp2_with fail
       obtain⟨F1,F2⟩:=HF.out;have F3:=HP.out _ _ _ _ (by unfold sdDS;rw[if_neg HK1.out,if_neg (fun h=>by rw[HSB.out] at h;cases h),if_pos HBG.out]<;> rfl) (by unfold sdDO;rw[if_neg HK1.out,if_neg (fun h=>by rw[HSB.out] at h;cases h),if_pos HBG.out]) F2;unfold putO at F1 F3;refine zj2 (O:=_) rfl rfl rfl F1 ?_;exact F3
 · have HSB:=zak hsb;clear hsb;go_upto_region 6 with fail
   refine zed (P:=DX w G p ps pb pd (⟨kd,ix,sub,tg,la,cr,sz,size,code,data,sq,bl,em,sum⟩:Ms) A3 m3 c3 X) (HX.out.step kBl) (fun W3 hX=>?_);clear ai af ag am ah aj an ao ap aq aa ab ac ae aM;clear k1 zW zk1 zo1 c0 c1;clear HX;have HX:=zak hX;have k1:=hX.2.2.1;have zW:=hX.2.1.lt;have zk1:=k1.lt;have zo1:=hX.2.2.2.1.lt;have c0:W3.cell? ⟨p,0,none⟩=some (.pointer (some ⟨ps,0,none⟩)):=hX.2.1.blk.cell 0 rfl;have c1:W3.cell? ⟨p,1,none⟩=some (.pointer (some ⟨pb,0,none⟩)):=hX.2.1.blk.cell 1 rfl;unfold msV at k1;dsimp only at k1;obtain⟨ai,af,ag,am,ah,aj,an,ao,ap,aq,aa,ab,ac,ae⟩:=zde k1;have aM:=k1.frozen
   clear hX;by_cases hk:kd=1
   · subst hk;go_wp2_with fail
     refine (zn1 HX.out.2.1).mono ?_;rintro e w5 ⟨rfl,h1,h2⟩;have F:=HX.out.fin (O:=outZ) HL.out (znt _ _ (fun _=>False)) (zdv.nil _ _) (FIn.nil _) (fun _ h=>h.elim) (h1.wide HX.out.2.1.lt) h2;have k5:Blk w5 (w.heap.size+1) 93 (outV none 0 0 outZ none 0 0):=(h2.block _ HX.out.2.2.2.1.lt (by omega)).trans HX.out.2.2.2.1;clear ai af ag am ah aj an ao ap aq aa ab ac ae aM;clear k1 zW zk1 zo1 c0 c1;clear h1 h2;have HF:=zak F;clear F;unfold outV outZ at k5;obtain⟨bB,bC,bD,bU,bV⟩:=zc9 k5;have cE:=k5.frozen;go_wp2_with fail
     obtain⟨F1,F2⟩:=HF.out;have F3:=HP.out _ _ _ _ (by unfold sdDS;rw[if_pos rfl]<;> rfl) (by unfold sdDO;rw[if_pos rfl]) F2;unfold putO at F1 F3;refine zj2 (O:=(⟨[],false,0,0,[]⟩:SegO)) rfl rfl rfl F1 ?_;exact F3
   · have d1:(kd == 1)=false:=by simp[hk]
     have HK1:=zak hk;clear hk;go_wp2_with fail
     refine (zpe _ _).mono ?_;rintro e w1 ⟨rfl,hw⟩;subst hw;obtain⟨A1,n1,q1,hB⟩:=HX.out.2.1.bkv.blk_;cases hbg:sdBeg kd
     · have HBG:=zak hbg;clear hbg;go_wp2_with fail
       refine (zl3 pb pd X.bk _ _ _ _ hB).mono ?_;rintro e w1 ⟨rfl,hw⟩;subst hw;by_cases hs:X.bk.st=0
       · have hq:(X.bk.st != 0)=false:=by simp[hs]
         have HSZ:=zak hs;rw[hq];clear hq hs hB;have HXb:=HX;go_wp2_with fail
         refine (HSeg.out _ _ HXb.out HW.out.1).mono ?_;rintro e w5 ⟨Y,As,ns,cs,ds1,A5,n5,c5,rfl,h1,h2,h3,h4,h5,h6⟩;have F:=HXb.out.fin HL.out h1 h2 h3 h4 h5 h6;have k5:Blk w5 (w.heap.size+1) 93 (outV none 0 0 outZ none 0 0):=(h6.block _ HXb.out.2.2.2.1.lt (by omega)).trans HXb.out.2.2.2.1;unfold outV;dsimp only;clear ai af ag am ah aj an ao ap aq aa ab ac ae aM;clear k1 zW zk1 zo1 c0 c1;clear h1 h2 h3 h4 h5 h6;have HF:=zak F;clear F;unfold outV outZ at k5;obtain⟨bB,bC,bD,bU,bV⟩:=zc9 k5;have cE:=k5.frozen;go_wp2_with fail
         obtain⟨F1,F2⟩:=HF.out;have F3:=HP.out _ _ _ _ (by unfold sdDS;rw[if_neg HK1.out,if_pos HSB.out,if_neg (fun h=>by rw[HBG.out] at h;cases h),if_neg (fun h=>h HSZ.out)]) (by unfold sdDO;rw[if_neg HK1.out,if_pos HSB.out,if_neg (fun h=>by rw[HBG.out] at h;cases h),if_neg (fun h=>h HSZ.out)]) F2;unfold putO at F1 F3;refine zj2 (O:=_) rfl rfl rfl F1 ?_;exact F3
       · have hq:(X.bk.st != 0)=true:=by simp[hs]
         have HSZ:=zak hs;rw[hq];clear hq hs;go_wp2_with fail
         refine (zl9 pb pd X.bk 84148225 _ _ _ _ hB).mono ?_;rintro e w5 ⟨_,h2⟩;obtain⟨g,hg,rfl,hM5,hB1,ho⟩:=h2 HSZ.out;have ho2:zd0 (fun q=>q=ps∨q=pb) W3 w5:=ho.mono (fun q _ h=>Or.inr h);have F:=HX.out.fin (O:=outM (abM X.bk.ix X.bk.sub 84148225)) HL.out (znu (X:=fun _=>False) hg hM5 (zdv.nil _ _) (FIn.nil _)) (zdv.nil _ _) (FIn.nil _) (fun _ h=>h.elim) (DV.wide (HX.out.2.1.bk_ (BV_.idle_ hB1 rfl) ho) HX.out.2.1.lt) ho2;have k5:Blk w5 (w.heap.size+1) 93 (outV none 0 0 outZ none 0 0):=(ho2.block _ HX.out.2.2.2.1.lt (by omega)).trans HX.out.2.2.2.1;clear ai af ag am ah aj an ao ap aq aa ab ac ae aM
         clear k1 zW zk1 zo1 c0 c1;clear h2 hM5 hB1 ho ho2 hB;have HF:=zak F;clear F;unfold outV outZ at k5;obtain⟨bB,bC,bD,bU,bV⟩:=zc9 k5;have cE:=k5.frozen;go_wp2_with fail
         obtain⟨F1,F2⟩:=HF.out;have F3:=HP.out _ _ _ _ (by unfold sdDS;rw[if_neg HK1.out,if_pos HSB.out,if_neg (fun h=>by rw[HBG.out] at h;cases h),if_pos HSZ.out]<;> rfl) (by unfold sdDO;rw[if_neg HK1.out,if_pos HSB.out,if_neg (fun h=>by rw[HBG.out] at h;cases h),if_pos HSZ.out]<;> rfl) F2;unfold putO at F1 F3;refine zj2 (O:=(⟨[],false,0,0,[]⟩:SegO)) rfl rfl rfl F1 ?_;exact F3
     · have HBG:=zak hbg;clear hbg;go_wp2_with fail
       refine (zl5 pb pd X.bk _ _ _ _ hB).mono ?_;rintro e w4 ⟨rfl,hB1,ho⟩;have HXb:=zak (HX.out.to_ HL.out (HX.out.2.1.bk_ (BV_.idle_ hB1 rfl) ho) (ho.mono (fun q _ h=>Or.inr h)));clear ai af ag am ah aj an ao ap aq aa ab ac ae aM;clear k1 zW zk1 zo1 c0 c1;clear hB hB1 ho;have hX:=HXb.out;have k1:=hX.2.2.1;have zW:=hX.2.1.lt;have zk1:=k1.lt;have zo1:=hX.2.2.2.1.lt;have c0:w4.cell? ⟨p,0,none⟩=some (.pointer (some ⟨ps,0,none⟩)):=hX.2.1.blk.cell 0 rfl;have c1:w4.cell? ⟨p,1,none⟩=some (.pointer (some ⟨pb,0,none⟩)):=hX.2.1.blk.cell 1 rfl;unfold msV at k1;dsimp only at k1;obtain⟨ai,af,ag,am,ah,aj,an,ao,ap,aq,aa,ab,ac,ae⟩:=zde k1
       have aM:=k1.frozen;clear hX;try dsimp only
       go_wp2_with fail
       refine (HSeg.out _ _ HXb.out HW.out.1).mono ?_;rintro e w5 ⟨Y,As,ns,cs,ds1,A5,n5,c5,rfl,h1,h2,h3,h4,h5,h6⟩;have F:=HXb.out.fin HL.out h1 h2 h3 h4 h5 h6;have k5:Blk w5 (w.heap.size+1) 93 (outV none 0 0 outZ none 0 0):=(h6.block _ HXb.out.2.2.2.1.lt (by omega)).trans HXb.out.2.2.2.1;unfold outV;dsimp only;clear ai af ag am ah aj an ao ap aq aa ab ac ae aM;clear k1 zW zk1 zo1 c0 c1;clear h1 h2 h3 h4 h5 h6;have HF:=zak F;clear F;unfold outV outZ at k5;obtain⟨bB,bC,bD,bU,bV⟩:=zc9 k5;have cE:=k5.frozen;go_wp2_with fail
       obtain⟨F1,F2⟩:=HF.out;have F3:=HP.out _ _ _ _ (by unfold sdDS;rw[if_neg HK1.out,if_pos HSB.out,if_pos HBG.out]<;> rfl) (by unfold sdDO;rw[if_neg HK1.out,if_pos HSB.out,if_pos HBG.out]) F2;unfold putO at F1 F3;refine zj2 (O:=_) rfl rfl rfl F1 ?_;exact F3
end
end
section
open Go.RowKit Go.Maps
def DRecR (w:World) (G:Nat→Prop) (p ps pb pd:Nat) (X':SdoS) (id:Int) (O:SegO) (e:Ending) (w':World):Prop:=
 ∃N Y As ns cs ds A n c,e= .returned (.tuple #[.slice As ns cs,.agg #[.int .i64 O.ix,.int .i64 O.sub,.slice A n c],.bool O.wr])∧ w.heap.size≤N∧zg3 w' (fun g=>N≤g) As ns cs (frmL id O.ms) ds∧zdv w' w.heap.size A n c O.b∧FIn Y A∧(∀q,Y q→w.heap.size≤q∧q < N)∧ DV w' (fun g=>((G g∨w.heap.size≤g)∧ ¬Y g)∧ g < N) p ps pb pd X'∧zd0 (fun g=>g=p∨g=ps∨g=pb) w w'
section
variable {F:Nat→Prop} {pd gl n cl cv:Nat} {Av:Option Addr} {L:List Ent} {V:List (List UInt8)} {ds es:List (Option Addr×Nat)} {w:World} {G:Nat→Prop} {p ps pb:Nat} {X:SdoS}
end
end
section
open Go.RowKit Go.Maps
def frmV (f:Frm) (A:Option Addr) (n c:Nat):Array Value:=#[.int .i64 f.id,.bool f.re,.slice A n c]
def valZ:Array Value:=#[.int .i64 0,.int .i64 0,.slice none 0 0]
def RX (w:World) (G:Nat→Prop) (p ps pb pd:Nat) (f:Frm) (A:Option Addr) (n c:Nat) (X:SdoS) (W:World):Prop:=
 zd0 (fun q=>q=p∨q=ps∨q=pb) w W∧DV W (fun q=>G q∧q < w.heap.size) p ps pb pd X∧Blk W w.heap.size 69 (frmV f A n c)∧ Blk W (w.heap.size+1) 46 valZ∧w.heap.size+2≤W.heap.size
section
variable {w W w':World} {G:Nat→Prop} {p ps pb pd:Nat} {X:SdoS} {f:Frm} {A:Option Addr} {n c:Nat}
theorem rx_mk (h:DV w G p ps pb pd X)(f:Frm)(A:Option Addr)(n c:Nat):RX w G p ps pb pd f A n c X ((w.alloc (.cells (frmV f A n c) 69)).alloc (.cells valZ 46)):=by
 obtain⟨k1,k2⟩:=zdh w 69 46 (frmV f A n c) valZ;have hb:=zc5 (zc5 (Below.refl w.heap.size w) (.cells (frmV f A n c) 69)) (.cells valZ 46);exact⟨zd0.of_below hb,h.step hb,k1,k2,by simp⟩
theorem RX.step (h:RX w G p ps pb pd f A n c X W)(hb:Below W.heap.size W w'):RX w G p ps pb pd f A n c X w':=
 ⟨h.1.step hb,h.2.1.low hb,h.2.2.1.below hb h.2.2.1.lt,h.2.2.2.1.below hb h.2.2.2.1.lt,Nat.le_trans h.2.2.2.2 hb.size⟩
theorem RX.left (h:RX w G p ps pb pd f A n c X W)(hl:p < w.heap.size∧ps < w.heap.size∧pb < w.heap.size)(k:Int):RX w G p ps pb pd f A n c { X with left:=k } (W.setCell ⟨p,4,none⟩ (.int .i64 k)):=by
 have ho:zd0 (fun q=>q=p∨q=ps∨q=pb) W (W.setCell ⟨p,4,none⟩ (.int .i64 k)):=zd0.of_set (F:=fun q=>q=p∨q=ps∨q=pb) (.inl rfl) _;exact⟨h.1.trans ho (fun _ _ h=>h),h.2.1.left_ k,(ho.block _ h.2.2.1.lt (by omega)).trans h.2.2.1,(ho.block _ h.2.2.2.1.lt (by omega)).trans h.2.2.2.1,Nat.le_trans h.2.2.2.2 ho.size⟩
theorem zpi (h:DV w G p ps pb pd X)(hin:X.nin≠0)(f:Frm)(A:Option Addr)(n c:Nat)(hn:n=f.data.length)(hr:sdReq X f=false):Calls Tryz.prog 60 #[.pointer (some ⟨p,0,none⟩),.agg #[.int .i64 f.id,.bool f.re,.slice A n c]] w fun e w'=>e= .returned (.tuple #[.slice none 0 0,.agg #[.int .i64 0,.int .i64 0,.slice none 0 0],.bool false])∧ Below w.heap.size w w':=by
 have hbw:=zc5 (zc5 (Below.refl w.heap.size w) (.cells #[.int .i64 f.id,.bool f.re,.slice A n c] 69)) (.cells #[.int .i64 0,.int .i64 0,.slice none 0 0] 46);have HB:=zak hbw;obtain⟨k1,k2⟩:=zdh w 69 46 #[.int .i64 f.id,.bool f.re,.slice A n c] #[.int .i64 0,.int .i64 0,.slice none 0 0];have zk1:=k1.lt;have zk2:=k2.lt;have zp:=h.lt;have c2:w.cell? ⟨p,2,none⟩=some (.int .i64 X.nin):=h.blk.cell 2 rfl;have hcs:f.id≠X.nin∨(f.id=X.nin∧f.re=true)∨ (f.id=X.nin∧f.re=false∧n≠8):=by
  unfold sdReq at hr;simp only[decide_eq_false_iff_not] at hr;by_cases h1:f.id=X.nin
  · cases h2:f.re
    · exact .inr (.inr ⟨h1,rfl,fun h3=>hr ⟨h1,h2,by omega⟩⟩)
    · exact .inr (.inl ⟨h1,rfl⟩)
  · exact .inl h1
 have d0:(X.nin == 0)=false:=by simp[hin]
 clear hbw h hr hin hn;obtain⟨ai,af,ag⟩:=zc8 k1;have aM:=k1.frozen;obtain⟨aB,aC,aD⟩:=zc8 k2;have aO:=k2.frozen;go_enter Tryz.func60,Tryz.ntmps60
 go_upto_region 1 with fail
 rcases hcs with h1 | ⟨h1,h2⟩ | ⟨h1,h2,h3⟩
 · have d1:(f.id != X.nin)=true:=by simp[h1]
   clear h1
   go_quiet (fail)
   go_wp2_with fail
   refine bodyPost_ret (v:= .tuple #[.slice none 0 0,.agg #[.int .i64 0,.int .i64 0,.slice none 0 0],.bool false]) (by simp[results,Tryz.results60,go_sem,aB,aC,aD,aO]) rfl ⟨rfl,?_⟩
   all_goals exact kBl
 · have d1:(f.id != X.nin)=false:=by simp[h1]
   clear h1
   go_quiet (fail)
   go_wp2_with fail
   refine bodyPost_ret (v:= .tuple #[.slice none 0 0,.agg #[.int .i64 0,.int .i64 0,.slice none 0 0],.bool false]) (by simp[results,Tryz.results60,go_sem,aB,aC,aD,aO]) rfl ⟨rfl,?_⟩
   all_goals exact kBl
 · have d1:(f.id != X.nin)=false:=by simp[h1]
   have d3:((n:Int) != 8)=true:=by simp;omega
   clear h1 h3
   go_quiet (fail)
   go_wp2_with fail
   refine bodyPost_ret (v:= .tuple #[.slice none 0 0,.agg #[.int .i64 0,.int .i64 0,.slice none 0 0],.bool false]) (by simp[results,Tryz.results60,go_sem,aB,aC,aD,aO]) rfl ⟨rfl,?_⟩
   all_goals exact kBl
end
end
section
open Go.RowKit Go.Maps
def putVal (w:World) (g:Nat) (ix sub:Int) (A:Option Addr) (n c:Nat):World:=((w.setCell ⟨g,0,none⟩ (.int .i64 ix)).setCell ⟨g,1,none⟩ (.int .i64 sub)).setCell ⟨g,2,none⟩ (.slice A n c)
theorem zpj (w:World)(g:Nat)(ix sub:Int)(A:Option Addr)(n c:Nat):zd0 (fun q=>q=g) w (putVal w g ix sub A n c):=
 (((zd0.refl (F:=fun q=>q=g) w).set _ rfl (.int .i64 ix)).set _ rfl (.int .i64 sub)).set _ rfl (.slice A n c)
theorem zpk {w w6:World}{G H Y:Nat→Prop}{N p ps pb pd:Nat}{X X':SdoS}{id:Int}{O:SegO}{As:Option Addr}{ns cs:Nat}{ds:List (Option Addr×Nat)}{A:Option Addr}{n c:Nat}(h0:DV w G p ps pb pd X)(hz:w.heap.size+2≤N)(hF:zg3 w6 (fun g=>N≤g) As ns cs (frmL id O.ms) ds)(hO:zdv w6 (w.heap.size+2) A n c O.b)(hY:FIn Y A)(hY2:∀q,Y q→w.heap.size+2≤q∧q < N)(hD:DV w6 H p ps pb pd X')(hH:∀q,q < w6.heap.size→H q→((G q∨w.heap.size≤q)∧ ¬Y q)∧ q < N∧q≠w.heap.size+1)(ho:zd0 (fun q=>q=p∨q=ps∨q=pb) w w6) :
 DRecR w G p ps pb pd X' id O (.returned (.tuple #[.slice As ns cs,.agg #[.int .i64 O.ix,.int .i64 O.sub,.slice A n c],.bool O.wr])) (putVal w6 (w.heap.size+1) O.ix O.sub A n c):=by
 have hp:=zpj w6 (w.heap.size+1) O.ix O.sub A n c;have hl:=h0.lt;have hbl:∀q,q < w6.heap.size→q≠w.heap.size+1→(putVal w6 (w.heap.size+1) O.ix O.sub A n c).heap[q]? =w6.heap[q]? :=fun q hq hne=>hp.block q hq hne
 refine⟨N,Y,As,ns,cs,ds,A,n,c,rfl,by omega,⟨hF.1.keep (fun g hg hlt=>hbl g hlt (by omega)),hF.2⟩,⟨hO.hn,(hO.own.keep (fun g hB hlt _=>hbl g hlt (by omega))).mono (by omega)⟩,hY,fun q hq=>⟨by have:=(hY2 q hq).1;omega,(hY2 q hq).2⟩,⟨(hbl p hD.lt.1 (by omega)).trans hD.blk,?_,?_,hD.ne,?_⟩,((ho.setNew (g:=w.heap.size+1) (i:=0) (by omega) (.int .i64 O.ix)).setNew (g:=w.heap.size+1) (i:=1) (by omega) (.int .i64 O.sub)).setNew (g:=w.heap.size+1) (i:=2) (by omega) (.slice A n c)⟩
 · refine hD.seg.kept (fun q hq hlt=>hbl q hlt ?_) hp.size (fun q hlt hq=>⟨(hH q hlt hq).1,(hH q hlt hq).2.1⟩);rcases hq with rfl | hq
   · omega
   · exact (hH q hlt hq).2.2
 · refine hD.bkv.keep (fun q hq hlt=>hbl q hlt ?_) hp.size (fun q hlt hq=>⟨(hH q hlt hq).1,(hH q hlt hq).2.1⟩);rcases hq with rfl | hq
   · omega
   · exact (hH q hlt hq).2.2
 · exact⟨fun hg=>hg.1.1.elim h0.ng.1 (fun h=>by omega),fun hg=>hg.1.1.elim h0.ng.2.1 (fun h=>by omega),fun hg=>hg.1.1.elim h0.ng.2.2 (fun h=>by omega)⟩
end
section
theorem zpl (S:BlkS)(h:S.ta≤1000):(bgiveL S).length≤1000:=by
 unfold bgiveL browN
 simp
 omega
theorem zpm (S:SegS)(c:Nat):(abortL S c).length≤1000:=by
 unfold abortL;split
 · exact Nat.zero_le _
 · exact Nat.succ_le_succ (Nat.zero_le _)
theorem zpn (S:BlkS)(c:Nat):(bAbortL S c).length≤1000:=by
 unfold bAbortL;split
 · exact Nat.zero_le _
 · exact Nat.succ_le_succ (Nat.zero_le _)
theorem zpo {L:List Ent}{V:List (List UInt8)}{S:SegS}{M:Ms}:(recvO L V S M).ms.length≤1000:=by
 unfold recvO;split
 · decide
 split
 · unfold downO;split
   · exact Nat.succ_le_succ (Nat.zero_le _)
   split
   · exact Nat.zero_le _
   · exact Nat.succ_le_succ (Nat.zero_le _)
 split
 · unfold upO;split
   · exact Nat.succ_le_succ (Nat.zero_le _)
   split
   · exact Nat.succ_le_succ (Nat.zero_le _)
   · exact Nat.succ_le_succ (Nat.zero_le _)
 split
 · unfold partO;split
   · exact zpm _ _
   split
   · exact Nat.zero_le _
   · exact Nat.succ_le_succ (Nat.zero_le _)
 split
 · unfold nextO;split
   · exact zpm _ _
   · exact Nat.succ_le_succ (Nat.zero_le _)
 split
 · exact Nat.succ_le_succ (Nat.zero_le _)
 · exact Nat.succ_le_succ (Nat.zero_le _)
theorem zpp {L:List Ent}{V:List (List UInt8)}{S:BlkS}{M:Ms}(hI:BWf S)(hM:BMOk M):(brO L V S M).ms.length≤1000:=by
 unfold brO;split
 · decide
 split
 · unfold bdownO;split
   · exact Nat.succ_le_succ (Nat.zero_le _)
   · exact Nat.succ_le_succ (Nat.zero_le _)
 split
 · unfold bupO;split
   · exact Nat.succ_le_succ (Nat.zero_le _)
   · exact Nat.succ_le_succ (Nat.zero_le _)
 split
 · exact Nat.succ_le_succ (Nat.zero_le _)
 split
 · unfold bpartO;split
   · exact zpn _ _
   split
   · exact Nat.zero_le _
   · exact Nat.succ_le_succ (Nat.zero_le _)
 split
 · unfold bendO;split
   · exact zpn _ _
   · exact Nat.zero_le _
 split
 · rename_i hk;exact zpl S (hI.b4 hk.2).2.2.2
 split
 · unfold backO;split
   · exact zpn _ _
   split
   · exact zpl _ (show M.bl≤1000 from hM.bl.2)
   · exact Nat.succ_le_succ (Nat.zero_le _)
 split
 · exact Nat.zero_le _
 · exact Nat.succ_le_succ (Nat.zero_le _)
theorem zpq {L:List Ent}{V:List (List UInt8)}{X:SdoS}{M:Ms}(hI:BWf X.bk)(hM:BMOk M):(sdDO L V X M).ms.length≤1000:=by
 unfold sdDO;split
 · decide
 split
 · split
   · exact zpo
   split
   · exact Nat.succ_le_succ (Nat.zero_le _)
   · exact zpo
 · split
   · exact zpp hI hM
   split
   · exact Nat.succ_le_succ (Nat.zero_le _)
   · exact zpp hI hM
end
end Go.Proofs.YtkkpjbjmhaecjaaGreat
