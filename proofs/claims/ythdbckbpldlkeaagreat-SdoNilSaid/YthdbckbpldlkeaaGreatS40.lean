/- None -/
import Derived.Test.YthdbckbpldlkeaaGreatS37
import Derived.Test.YthdbckbpldlkeaaGreatS39
namespace Go.Proofs.YthdbckbpldlkeaaGreat
set_option linter.unusedVariables false
set_option linter.unusedSimpArgs false
set_option linter.unnecessarySimpa false
section
open Go.RowKit Go.Maps
set_option maxRecDepth 100000
set_option maxHeartbeats 8000000
def CallG (w:World) (V:World→Prop) (F:Nat→Prop) (l:List Ms) (e:Ending) (w':World):Prop:=
 ∃ As ns cs ds,e= .returned (.slice As ns cs)∧ MsG w' w.heap.size (fun _=>False) As ns cs l ds∧V w'∧zdv F w w'
section
variable {w w':World} {G H:Nat→Prop} {p ps pb pd:Nat} {X:SdoS}
theorem DV.seg_ (h:DV w G p ps pb pd X) {sg':SegS} (hS:SV_ w' G ps pd sg') (ho:zdv (fun q=>q=ps) w w'):DV w' G p ps pb pd { X with sg:=sg' }:=
 ⟨(ho.block p h.lt.1 h.ne.1).trans h.blk,hS,h.bkv.keep (fun q hq hl=>ho.block q hl (by rcases hq with rfl | hq;exact fun e=>h.ne.2.2 e.symm;exact fun e=>h.ng.2.1 (e ▸ hq))) ho.size (fun _ _ g=>g),h.ne,h.ng⟩
theorem DV.bk_ (h:DV w G p ps pb pd X) {bk':BlkS} (hS:BV_ w' G pb pd bk') (ho:zdv (fun q=>q=pb) w w'):DV w' G p ps pb pd { X with bk:=bk' }:=
 ⟨(ho.block p h.lt.1 h.ne.2.1).trans h.blk,h.seg.kept (fun q hq hl=>ho.block q hl (by rcases hq with rfl | hq;exact h.ne.2.2;exact fun e=>h.ng.2.2 (e ▸ hq))) ho.size (fun _ _ g=>g),hS,h.ne,h.ng⟩
theorem DV.left_ (h:DV w G p ps pb pd X) (k:Int):DV (w.setCell ⟨p,4,none⟩ (.int .i64 k)) G p ps pb pd { X with left:=k }:= by
 have ho:zdv (fun q=>q=p) w (w.setCell ⟨p,4,none⟩ (.int .i64 k)):= zdv.of_set (F:=fun q=>q=p) rfl _
 exact⟨h.blk.set_ 4 (.int .i64 k),h.seg.kept (fun q hq hl=>ho.block q hl (by rcases hq with rfl | hq;exact fun e=>h.ne.1 e.symm;exact fun e=>h.ng.1 (e ▸ hq))) ho.size (fun _ _ g=>g),h.bkv.keep (fun q hq hl=>ho.block q hl (by rcases hq with rfl | hq;exact fun e=>h.ne.2.1 e.symm;exact fun e=>h.ng.1 (e ▸ hq))) ho.size (fun _ _ g=>g),h.ne,h.ng⟩
end
theorem SV_.idle_ {w:World} {G:Nat→Prop} {p pd:Nat} {S:SegS} {A:Option Addr} {n c:Nat} (h:Blk w p 199 (srvV S pd A n c)) (h0:S.st=0):SV_ w G p pd S:=⟨A,n,c,h,fun h=>by omega⟩
theorem BV_.idle_ {w:World} {G:Nat→Prop} {p pd:Nat} {S:BlkS} {A:Option Addr} {n c:Nat} (h:Blk w p 121 (bsrV S pd A n c)) (h0:S.st=0):BV_ w G p pd S:=⟨A,n,c,h,fun h=>absurd h0 h⟩
def sdAbS (X:SdoS):SdoS:=if X.sg.st≠0 then { X with sg:=segIdle X.sg } else if X.bk.st≠0 then { X with bk:=blkIdle X.bk } else X
def sdAbL (X:SdoS) (code:Nat):List Ms:=if X.sg.st≠0 then [abM X.sg.ix X.sg.sub code] else if X.bk.st≠0 then [abM X.bk.ix X.bk.sub code] else [abM 0 0 code]
section
variable {w:World} {G:Nat→Prop} {p ps pb pd:Nat} {X:SdoS}
theorem znf (code:Nat) (h:DV w G p ps pb pd X):Calls Tryz.prog 73 #[.pointer (some ⟨p,0,none⟩),.int .u32 (code:Nat)] w (CallG w (fun w'=>DV w' G p ps pb pd (sdAbS X)) (fun q=>q=ps∨q=pb) (sdAbL X code)):= by
 obtain⟨P,hP⟩:∃ P,P=CallG w (fun w'=>DV w' G p ps pb pd (sdAbS X)) (fun q=>q=ps∨q=pb) (sdAbL X code):= ⟨_,rfl⟩
 rw[← hP]
 have HP:=zak hP
 obtain⟨A,n,c,hB⟩:= h.seg.blk_
 obtain⟨A',n',c',hB'⟩:= h.bkv.blk_
 have c0:w.cell? ⟨p,0,none⟩=some (.pointer (some ⟨ps,0,none⟩)):= h.blk.cell 0 rfl
 have c1:w.cell? ⟨p,1,none⟩=some (.pointer (some ⟨pb,0,none⟩)):= h.blk.cell 1 rfl
 have HS:=zak (zjj ps pd X.sg A n c w hB)
 have HB:=zak (zle pb pd X.bk A' n' c' w hB')
 have HSA:=zak (zjm ps pd X.sg code A n c w hB)
 have HBA:=zak (zlk pb pd X.bk code A' n' c' w hB')
 have HD:=zak h
 have zp:=h.lt
 clear h hB hB' hP
 go_enter Tryz.func73,Tryz.ntmps73
 go_wp2_with fail
 refine HS.out.mono ?_
 rintro e w1 ⟨rfl,hw⟩
 subst hw
 by_cases hs:X.sg.st=0
 · have hq:(X.sg.st != 0)=false:=by simp[hs]
   have HSZ:=zak hs
   rw[hq]
   clear hq hs
   go_wp2_with fail
   refine HB.out.mono ?_
   rintro e w1 ⟨rfl,hw⟩
   subst hw
   by_cases hb:X.bk.st=0
   · have hq:(X.bk.st != 0)=false:=by simp[hb]
     have HBZ:=zak hb
     rw[hq]
     clear hq hb
     go_wp2_with fail
     rw[HP.out]
     have hS:sdAbS X=X:=by unfold sdAbS;rw[if_neg (fun h=>h HSZ.out),if_neg (fun h=>h HBZ.out)]
     have hL:sdAbL X code= [abM 0 0 code]:= by unfold sdAbL;rw[if_neg (fun h=>h HSZ.out),if_neg (fun h=>h HBZ.out)]
     refine⟨_,_,_,[(none,0)],rfl,?_,?_,?_⟩
     · rw[hL]
       exact zm9 (Nat.le_refl _) (Blk.new w 102 (msV (abM 0 0 code) none 0 0)) (zdq.nil _ _) (FIn.nil _)
     · rw[hS]
       have hb:=zc1 (Below.refl w.heap.size w) (.cells (msV (abM 0 0 code) none 0 0) 102)
       exact⟨HD.out.blk.below hb zp.1,HD.out.seg.kept (fun q _ hl=>hb.block q hl) hb.size (fun _ _ g=>g),HD.out.bkv.keep (fun q _ hl=>hb.block q hl) hb.size (fun _ _ g=>g),HD.out.ne,HD.out.ng⟩
     · exact zdv.of_below (zc1 (Below.refl w.heap.size w) (.cells (msV (abM 0 0 code) none 0 0) 102))
   · have hq:(X.bk.st != 0)=true:=by simp[hb]
     have HBZ:=zak hb
     rw[hq]
     clear hq hb
     go_wp2_with fail
     refine HBA.out.mono ?_
     rintro e w3 ⟨_,h2⟩
     obtain⟨g,hg,rfl,hM,hB2,ho⟩:= h2 HBZ.out
     have hS:sdAbS X= { X with bk:=blkIdle X.bk }:= by unfold sdAbS;rw[if_neg (fun h=>h HSZ.out),if_pos HBZ.out]
     have hL:sdAbL X code= [abM X.bk.ix X.bk.sub code]:= by unfold sdAbL;rw[if_neg (fun h=>h HSZ.out),if_pos HBZ.out]
     have HR:Hid (CallG w (fun w'=>DV w' G p ps pb pd (sdAbS X)) (fun q=>q=ps∨q=pb) (sdAbL X code) (.returned (.slice (some ⟨g,0,none⟩) 1 1)) w3):= zak (by
      refine⟨_,_,_,[(none,0)],rfl,?_,?_,ho.mono (fun _ _ h=> .inr h)⟩
      · rw[hL]
        exact zm9 hg hM (zdq.nil _ _) (FIn.nil _)
      · rw[hS]
        exact HD.out.bk_ (BV_.idle_ hB2 rfl) ho)
     clear h2 hM hB2 ho hS hL
     go_wp2_with fail
     rw[HP.out]
     exact HR.out
 · have hq:(X.sg.st != 0)=true:=by simp[hs]
   have HSZ:=zak hs
   rw[hq]
   clear hq hs
   go_wp2_with fail
   refine HSA.out.mono ?_
   rintro e w3 ⟨_,h2⟩
   obtain⟨g,hg,rfl,hM,hB2,ho⟩:= h2 HSZ.out
   have hS:sdAbS X= { X with sg:=segIdle X.sg }:= by unfold sdAbS;rw[if_pos HSZ.out]
   have hL:sdAbL X code= [abM X.sg.ix X.sg.sub code]:= by unfold sdAbL;rw[if_pos HSZ.out]
   have HR:Hid (CallG w (fun w'=>DV w' G p ps pb pd (sdAbS X)) (fun q=>q=ps∨q=pb) (sdAbL X code) (.returned (.slice (some ⟨g,0,none⟩) 1 1)) w3):= zak (by
    refine⟨_,_,_,[(none,0)],rfl,?_,?_,ho.mono (fun _ _ h=> .inl h)⟩
    · rw[hL]
      exact zm9 hg hM (zdq.nil _ _) (FIn.nil _)
    · rw[hS]
      exact HD.out.seg_ (SV_.idle_ hB2 rfl) ho)
   clear h2 hM hB2 ho hS hL
   go_wp2_with fail
   rw[HP.out]
   exact HR.out
theorem zng (h:DV w G p ps pb pd X):Calls Tryz.prog 29 #[.pointer (some ⟨p,0,none⟩)] w fun e w'=>e= .returned (.tuple #[])∧ DV w' G p ps pb pd { X with sg:=segIdle X.sg,bk:=blkIdle X.bk }∧ zdv (fun q=>q=ps∨q=pb) w w':=by
 obtain⟨A,n,c,hB⟩:= h.seg.blk_
 have c0:w.cell? ⟨p,0,none⟩=some (.pointer (some ⟨ps,0,none⟩)):= h.blk.cell 0 rfl
 have HS:=zak (zjn ps pd X.sg A n c w hB)
 have HD:=zak h
 clear h hB
 go_enter Tryz.func29,Tryz.ntmps29
 go_wp2_with fail
 refine HS.out.mono ?_
 rintro e w1 ⟨rfl,hB1,ho1⟩
 have h1:=HD.out.seg_ (SV_.idle_ (G:=G) hB1 rfl) ho1
 obtain⟨A',n',c',hB'⟩:= h1.bkv.blk_
 have c1:w1.cell? ⟨p,1,none⟩=some (.pointer (some ⟨pb,0,none⟩)):= h1.blk.cell 1 rfl
 have HB:=zak (zlg pb pd X.bk A' n' c' w1 hB')
 have H1:=zak h1
 have HO:=zak ho1
 clear h1 hB1 hB' ho1
 go_wp2_with fail
 refine HB.out.mono ?_
 rintro e w2 ⟨rfl,hB2,ho2⟩
 have HR:=zak (And.intro (H1.out.bk_ (BV_.idle_ (G:=G) hB2 rfl) ho2) ((HO.out.mono (fun q _ h=>Or.inl h)).trans (ho2.mono (fun q _ h=>Or.inr h)) (fun _ _ h=>h)))
 clear hB2 ho2
 dsimp only
 go_wp2_with fail
 go_end0
 exact⟨rfl,HR.out.1,HR.out.2⟩
end
end
section
open Go.RowKit Go.Maps
set_option maxRecDepth 100000
set_option maxHeartbeats 8000000
theorem znh {w:World} {g:Nat} {t:TypeId} {cs:Array Value} {vs:List Value} (h:Blk w g t cs) (h1:cs.size=14) (h2:vs.length=14):Blk (w.setCells g 0 vs) g t vs.toArray:=by
 have s:=zd5 vs 0 (l:=cs.toList) (by simpa using h) (by simp[h1,h2])
 have e:cs.toList.take 0 ++ vs ++ cs.toList.drop (0+vs.length)=vs:=by
  rw[h2,List.drop_of_length_le (by simp[h1])]
  simp
 rw[e] at s
 exact s
theorem zni:(Tryz.prog.info? 102).map (·.size)=some 14:=by kernel_rfl
theorem znj {fn:Func} {p u:Tmp} (h:fn.results= #[.cell p 102,.tmp u]) {a:Act} {w:World} {g:Nat} {M:Ms} {A:Option Addr} {n c:Nat} {v:Value} {R:Ending→World→Prop} (hd:a.defers= []) (hp:a.tmps.getD p undef= .pointer (some ⟨g,0,none⟩))
 (hB:Blk w g 102 (msV M A n c)) (hu:a.tmps.getD u undef=v) (hR:R (.returned (.tuple #[.agg (msV M A n c),v])) w):bodyPost Tryz.prog fn R .ret a w:=by
 subst hu
 refine bodyPost_ret ?_ hd hR
 rw[results_cell_tmp h,hp]
 simp only[asAddr,Sem.run_pure,Result.andThen_ok]
 rw[run_loadVar_row w g _ _ _ _ _ hB Tryz.underlying102 rfl zni]
 rfl
section
variable {w:World} {G:Nat→Prop} {p ps pb pd:Nat} {X:SdoS}
def sdKs (X:SdoS) (b:List UInt8):List Int:=if X.bk.st=1∧b.headD 0≠128 then segK else reqK
def sdRc (X:SdoS) (b:List UInt8):Nat:=if errI (sdKs X b) b=0 then 0 else if X.bk.st=1∧b.headD 0≠128 then 84148227 else 84148225
def SRdR (X:SdoS) (b:List UInt8) (w:World) (e:Ending) (w':World):Prop:=
 ∃ A' n' c',e= .returned (.tuple #[.agg (msV (resM (sdKs X b) b) A' n' c'),.int .u32 (sdRc X b:Nat)])∧ zdq w' w.heap.size A' n' c' (resM (sdKs X b) b).data∧Below w.heap.size w w'
theorem znk (A:Option Addr) (n c:Nat) (b:List UInt8) (h:DV w G p ps pb pd X) (hn:n=b.length) (h8:b.length=8) (hc:n≤c) (hs:Sl w A (b.map bv)):Calls Tryz.prog 71 #[.pointer (some ⟨p,0,none⟩),.slice A n c] w (SRdR X b w):= by
 obtain⟨A',n',c',hB'⟩:= h.bkv.blk_
 obtain⟨P,hP⟩:∃ P,P=SRdR X b w:=⟨_,rfl⟩
 have hno:∀ ks (cd:Nat) M A4 n4 c4 W,sdKs X b=ks→M=resM ks b→sdRc X b=cd→zdq W w.heap.size A4 n4 c4 M.data→Below w.heap.size w W→P (.returned (.tuple #[.agg (msV M A4 n4 c4),.int .u32 (cd:Nat)])) W:=by
  intro ks cd M A4 n4 c4 W h1 h2 h3 h4 h5
  rw[hP]
  subst h1
  subst h2
  subst h3
  exact⟨A4,n4,c4,rfl,h4,h5⟩
 rw[← hP]
 have HE:=zak hno
 clear hP hno
 have c1:w.cell? ⟨p,1,none⟩=some (.pointer (some ⟨pb,0,none⟩)):= h.blk.cell 1 rfl
 have HQ0:=zak (And.intro (Blk.new w 102 #[.int .i64 0,.int .i64 0,.int .i64 0,.bool false,.bool false,.bool false,.bool false,.int .u32 0,.int .u32 0,.slice none 0 0,.int .i64 0,.int .i64 0,.int .i64 0,.int .u16 0]) (zc1 (Below.refl w.heap.size w) (.cells #[.int .i64 0,.int .i64 0,.int .i64 0,.bool false,.bool false,.bool false,.bool false,.int .u32 0,.int .u32 0,.slice none 0 0,.int .i64 0,.int .i64 0,.int .i64 0,.int .u16 0] 102)))
 have zp:=h.lt
 obtain⟨x,hx⟩:∃ x,x=b.headD 0:=⟨_,rfl⟩
 have hcx:(b.map bv)[0]? =some (.int .u8 (x.toNat:Nat)):= by
  rw[hx]
  rcases b with _ | ⟨y,b⟩
  · simp at h8
  · rfl
 obtain⟨bb,oo,rfl,hcell⟩:= hs.at_ hcx
 rw[Nat.add_zero] at hcell
 have h8n:n=8:=by omega
 subst h8n
 have HX:=zak hx
 have HN:=zak hn
 have HC:=zak hc
 have HS:=zak hs
 have HB:=zak hB'
 have HCL:=zak hcell
 clear h hB' hs hcx hcell hx hn hc h8
 go_enter Tryz.func71,Tryz.ntmps71
 go_upto_region 1 with fail
 refine zd8 (P:=fun W=>Blk W w.heap.size 102 #[.int .i64 0,.int .i64 0,.int .i64 0,.bool false,.bool false,.bool false,.bool false,.int .u32 0,.int .u32 0,.slice none 0 0,.int .i64 0,.int .i64 0,.int .i64 0,.int .u16 0]∧ Below w.heap.size w W) HQ0.out (fun W hW=>?_)
 clear HQ0
 obtain⟨hq,hbw⟩:= hW
 have HQ:=zak hq
 have HBW:=zak hbw
 have lq:=hq.lt
 have hszW:=hbw.size
 have cW:W.cell? ⟨p,1,none⟩=some (.pointer (some ⟨pb,0,none⟩)):= (hbw.cell (p:=⟨p,1,none⟩) zp.1).trans c1
 have hxW:W.cell? ⟨bb,oo,none⟩=some (.int .u8 (x.toNat:Nat)):= (hbw.cell (zal HCL.out)).trans HCL.out
 have HRows:=zak (zlf pb pd X.bk A' n' c' W (HB.out.below hbw zp.2.2))
 have HSW:=zak (HS.out.below hbw)
 clear hq hbw c1
 go_wp2_with fail
 refine HRows.out.mono ?_
 rintro e w1 ⟨rfl,hw⟩
 subst hw
 by_cases hst:X.bk.st=1
 · have hq:(X.bk.st == 1)=true:=by simp[hst]
   have HST:=zak hst
   rw[hq]
   clear hq hst
   by_cases hx8:x=128
   · have dx:((x.toNat:Int) != 128)=false:=by rw[hx8];rfl
     have HX8:=zak hx8
     clear hx8
     have hks:sdKs X b=reqK:=by unfold sdKs;rw[if_neg (fun h=>h.2 (HX.out.symm.trans HX8.out))]
     have hrc:sdRc X b=if errI reqK b=0 then 0 else 84148225:=by unfold sdRc;rw[hks,if_neg (c:=(X.bk.st=1∧b.headD 0≠128)) (fun h=>h.2 (HX.out.symm.trans HX8.out))]
     have HKS:=zak hks
     clear hks
     go_wp2_with fail
     refine (zf1 (some ⟨bb,oo,none⟩) 8 c b _ HN.out HC.out HSW.out).mono ?_
     rintro e w3 ⟨A3,n3,c3,rfl,hO,hb⟩
     obtain⟨M,hM⟩:∃ M,M=resM reqK b:=⟨_,rfl⟩
     obtain⟨er,her⟩:∃ er,er=errI reqK b:=⟨_,rfl⟩
     rw[← her] at hrc
     rw[← hM] at hO
     rw[← hM,← her]
     have qr:=HQ.out.below hb lq
     have hbw:=zc0 hb HBW.out
     have hsz:=hbw.size
     have HM:=zak hM
     have lq3:=qr.lt
     have HQR:=zak qr
     clear hM her hb
     obtain⟨kind,ix,sub,tg,la,cr,sz,size,code,data,sq,bl,em,sum⟩:= M
     have HO:=zak hO
     simp only[msV] at qr ⊢
     obtain⟨qr_c0,qr_c1,qr_c2,qr_c3,qr_c4,qr_c5,qr_c6,qr_c7,qr_c8,qr_c9,qr_c10,qr_c11,qr_c12,qr_c13⟩:= zc9 qr
     have qr_f:=qr.frozen
     clear hO
     by_cases he:er=0
     · have d2:(er != 0)=false:=by simp[he]
       have hrc2:sdRc X b=0:=by rw[hrc,if_pos he]
       have HRC:=zak hrc2
       clear hrc2 hrc he
       go_wp2_with fail
       have q4:=(znh (vs:= [.int .i64 kind,.int .i64 ix,.int .i64 sub,.bool tg,.bool la,.bool cr,.bool sz,.int .u32 (size:Nat),.int .u32 (code:Nat),.slice A3 n3 c3,.int .i64 sq,.int .i64 bl,.int .i64 em,.int .u16 (sum:Nat)]) HQR.out rfl rfl).alloc (.cells #[.int .i64 kind,.int .i64 ix,.int .i64 sub,.bool tg,.bool la,.bool cr,.bool sz,.int .u32 (size:Nat),.int .u32 (code:Nat),.slice A3 n3 c3,.int .i64 sq,.int .i64 bl,.int .i64 em,.int .u16 (sum:Nat)] 102)
       simp only[World.setCells,Nat.reduceAdd] at q4
       refine znj (M:=(⟨kind,ix,sub,tg,la,cr,sz,size,code,data,sq,bl,em,sum⟩:Ms)) (A:=A3) (n:=n3) (c:=c3) (v:= .int .u32 ((0:Nat):Int)) rfl rfl rfl q4 rfl (HE.out _ 0 (⟨kind,ix,sub,tg,la,cr,sz,size,code,data,sq,bl,em,sum⟩:Ms) A3 n3 c3 _ HKS.out HM.out HRC.out ?_ ?_)
       · exact ((ze1 HO.out lq _ _ _ _ _ _ _ _ _ _ _ _ _ _).alloc _).mono hszW
       · repeat' (first | with_reducible assumption | with_reducible exact Below.refl _ _ | with_reducible apply zc1 | with_reducible apply zdm | with_reducible apply zdl | (with_reducible apply zc0;with_reducible assumption) | (with_reducible apply zdn;(first | exact Nat.le_refl _ | (simp;done) | omega)))
     · have d2:(er != 0)=true:=by simp[he]
       have hrc2:sdRc X b=84148225:=by rw[hrc,if_neg he]
       have HRC:=zak hrc2
       clear hrc2 hrc he
       go_wp2_with fail
       have q4:=(znh (vs:= [.int .i64 kind,.int .i64 ix,.int .i64 sub,.bool tg,.bool la,.bool cr,.bool sz,.int .u32 (size:Nat),.int .u32 (code:Nat),.slice A3 n3 c3,.int .i64 sq,.int .i64 bl,.int .i64 em,.int .u16 (sum:Nat)]) HQR.out rfl rfl).alloc (.cells #[.int .i64 kind,.int .i64 ix,.int .i64 sub,.bool tg,.bool la,.bool cr,.bool sz,.int .u32 (size:Nat),.int .u32 (code:Nat),.slice A3 n3 c3,.int .i64 sq,.int .i64 bl,.int .i64 em,.int .u16 (sum:Nat)] 102)
       simp only[World.setCells,Nat.reduceAdd] at q4
       refine znj (M:=(⟨kind,ix,sub,tg,la,cr,sz,size,code,data,sq,bl,em,sum⟩:Ms)) (A:=A3) (n:=n3) (c:=c3) (v:= .int .u32 ((84148225:Nat):Int)) rfl rfl rfl q4 rfl (HE.out _ 84148225 (⟨kind,ix,sub,tg,la,cr,sz,size,code,data,sq,bl,em,sum⟩:Ms) A3 n3 c3 _ HKS.out HM.out HRC.out ?_ ?_)
       · exact ((ze1 HO.out lq _ _ _ _ _ _ _ _ _ _ _ _ _ _).alloc _).mono hszW
       · repeat' (first | with_reducible assumption | with_reducible exact Below.refl _ _ | with_reducible apply zc1 | with_reducible apply zdm | with_reducible apply zdl | (with_reducible apply zc0;with_reducible assumption) | (with_reducible apply zdn;(first | exact Nat.le_refl _ | (simp;done) | omega)))
   · have dx:((x.toNat:Int) != 128)=true:=by have:x.toNat≠128:=fun h=>hx8 (UInt8.toNat_inj.1 h);simp;omega
     have HX8:=zak hx8
     clear hx8
     have hks:sdKs X b=segK:=by unfold sdKs;rw[if_pos ⟨HST.out,fun h=>HX8.out (HX.out.trans h)⟩]
     have hrc:sdRc X b=if errI segK b=0 then 0 else 84148227:=by unfold sdRc;rw[hks,if_pos (c:=(X.bk.st=1∧b.headD 0≠128)) ⟨HST.out,fun h=>HX8.out (HX.out.trans h)⟩]
     have HKS:=zak hks
     clear hks
     go_wp2_with fail
     refine (zf2 (some ⟨bb,oo,none⟩) 8 c b _ HN.out HC.out HSW.out).mono ?_
     rintro e w3 ⟨A3,n3,c3,rfl,hO,hb⟩
     obtain⟨M,hM⟩:∃ M,M=resM segK b:=⟨_,rfl⟩
     obtain⟨er,her⟩:∃ er,er=errI segK b:=⟨_,rfl⟩
     rw[← her] at hrc
     rw[← hM] at hO
     rw[← hM,← her]
     have qr:=HQ.out.below hb lq
     have hbw:=zc0 hb HBW.out
     have hsz:=hbw.size
     have HM:=zak hM
     have lq3:=qr.lt
     have HQR:=zak qr
     clear hM her hb
     obtain⟨kind,ix,sub,tg,la,cr,sz,size,code,data,sq,bl,em,sum⟩:= M
     have HO:=zak hO
     simp only[msV] at qr ⊢
     obtain⟨qr_c0,qr_c1,qr_c2,qr_c3,qr_c4,qr_c5,qr_c6,qr_c7,qr_c8,qr_c9,qr_c10,qr_c11,qr_c12,qr_c13⟩:= zc9 qr
     have qr_f:=qr.frozen
     clear hO
     by_cases he:er=0
     · have d2:(er != 0)=false:=by simp[he]
       have hrc2:sdRc X b=0:=by rw[hrc,if_pos he]
       have HRC:=zak hrc2
       clear hrc2 hrc he
       go_wp2_with fail
       have q4:=(znh (vs:= [.int .i64 kind,.int .i64 ix,.int .i64 sub,.bool tg,.bool la,.bool cr,.bool sz,.int .u32 (size:Nat),.int .u32 (code:Nat),.slice A3 n3 c3,.int .i64 sq,.int .i64 bl,.int .i64 em,.int .u16 (sum:Nat)]) HQR.out rfl rfl).alloc (.cells #[.int .i64 kind,.int .i64 ix,.int .i64 sub,.bool tg,.bool la,.bool cr,.bool sz,.int .u32 (size:Nat),.int .u32 (code:Nat),.slice A3 n3 c3,.int .i64 sq,.int .i64 bl,.int .i64 em,.int .u16 (sum:Nat)] 102)
       simp only[World.setCells,Nat.reduceAdd] at q4
       refine znj (M:=(⟨kind,ix,sub,tg,la,cr,sz,size,code,data,sq,bl,em,sum⟩:Ms)) (A:=A3) (n:=n3) (c:=c3) (v:= .int .u32 ((0:Nat):Int)) rfl rfl rfl q4 rfl (HE.out _ 0 (⟨kind,ix,sub,tg,la,cr,sz,size,code,data,sq,bl,em,sum⟩:Ms) A3 n3 c3 _ HKS.out HM.out HRC.out ?_ ?_)
       · exact ((ze1 HO.out lq _ _ _ _ _ _ _ _ _ _ _ _ _ _).alloc _).mono hszW
       · repeat' (first | with_reducible assumption | with_reducible exact Below.refl _ _ | with_reducible apply zc1 | with_reducible apply zdm | with_reducible apply zdl | (with_reducible apply zc0;with_reducible assumption) | (with_reducible apply zdn;(first | exact Nat.le_refl _ | (simp;done) | omega)))
     · have d2:(er != 0)=true:=by simp[he]
       have hrc2:sdRc X b=84148227:=by rw[hrc,if_neg he]
       have HRC:=zak hrc2
       clear hrc2 hrc he
       go_wp2_with fail
       have q4:=(znh (vs:= [.int .i64 kind,.int .i64 ix,.int .i64 sub,.bool tg,.bool la,.bool cr,.bool sz,.int .u32 (size:Nat),.int .u32 (code:Nat),.slice A3 n3 c3,.int .i64 sq,.int .i64 bl,.int .i64 em,.int .u16 (sum:Nat)]) HQR.out rfl rfl).alloc (.cells #[.int .i64 kind,.int .i64 ix,.int .i64 sub,.bool tg,.bool la,.bool cr,.bool sz,.int .u32 (size:Nat),.int .u32 (code:Nat),.slice A3 n3 c3,.int .i64 sq,.int .i64 bl,.int .i64 em,.int .u16 (sum:Nat)] 102)
       simp only[World.setCells,Nat.reduceAdd] at q4
       refine znj (M:=(⟨kind,ix,sub,tg,la,cr,sz,size,code,data,sq,bl,em,sum⟩:Ms)) (A:=A3) (n:=n3) (c:=c3) (v:= .int .u32 ((84148227:Nat):Int)) rfl rfl rfl q4 rfl (HE.out _ 84148227 (⟨kind,ix,sub,tg,la,cr,sz,size,code,data,sq,bl,em,sum⟩:Ms) A3 n3 c3 _ HKS.out HM.out HRC.out ?_ ?_)
       · exact ((ze1 HO.out lq _ _ _ _ _ _ _ _ _ _ _ _ _ _).alloc _).mono hszW
       · repeat' (first | with_reducible assumption | with_reducible exact Below.refl _ _ | with_reducible apply zc1 | with_reducible apply zdm | with_reducible apply zdl | (with_reducible apply zc0;with_reducible assumption) | (with_reducible apply zdn;(first | exact Nat.le_refl _ | (simp;done) | omega)))
 · have hq:(X.bk.st == 1)=false:=by simp[hst]
   have HST:=zak hst
   rw[hq]
   clear hq hst
   have hks:sdKs X b=reqK:=by unfold sdKs;rw[if_neg (fun h=>HST.out h.1)]
   have hrc:sdRc X b=if errI reqK b=0 then 0 else 84148225:=by unfold sdRc;rw[hks,if_neg (c:=(X.bk.st=1∧b.headD 0≠128)) (fun h=>HST.out h.1)]
   have HKS:=zak hks
   clear hks
   go_wp2_with fail
   refine (zf1 (some ⟨bb,oo,none⟩) 8 c b _ HN.out HC.out HSW.out).mono ?_
   rintro e w3 ⟨A3,n3,c3,rfl,hO,hb⟩
   obtain⟨M,hM⟩:∃ M,M=resM reqK b:=⟨_,rfl⟩
   obtain⟨er,her⟩:∃ er,er=errI reqK b:=⟨_,rfl⟩
   rw[← her] at hrc
   rw[← hM] at hO
   rw[← hM,← her]
   have qr:=HQ.out.below hb lq
   have hbw:=zc0 hb HBW.out
   have hsz:=hbw.size
   have HM:=zak hM
   have lq3:=qr.lt
   have HQR:=zak qr
   clear hM her hb
   obtain⟨kind,ix,sub,tg,la,cr,sz,size,code,data,sq,bl,em,sum⟩:= M
   have HO:=zak hO
   simp only[msV] at qr ⊢
   obtain⟨qr_c0,qr_c1,qr_c2,qr_c3,qr_c4,qr_c5,qr_c6,qr_c7,qr_c8,qr_c9,qr_c10,qr_c11,qr_c12,qr_c13⟩:= zc9 qr
   have qr_f:=qr.frozen
   clear hO
   by_cases he:er=0
   · have d2:(er != 0)=false:=by simp[he]
     have hrc2:sdRc X b=0:=by rw[hrc,if_pos he]
     have HRC:=zak hrc2
     clear hrc2 hrc he
     go_wp2_with fail
     have q4:=(znh (vs:= [.int .i64 kind,.int .i64 ix,.int .i64 sub,.bool tg,.bool la,.bool cr,.bool sz,.int .u32 (size:Nat),.int .u32 (code:Nat),.slice A3 n3 c3,.int .i64 sq,.int .i64 bl,.int .i64 em,.int .u16 (sum:Nat)]) HQR.out rfl rfl).alloc (.cells #[.int .i64 kind,.int .i64 ix,.int .i64 sub,.bool tg,.bool la,.bool cr,.bool sz,.int .u32 (size:Nat),.int .u32 (code:Nat),.slice A3 n3 c3,.int .i64 sq,.int .i64 bl,.int .i64 em,.int .u16 (sum:Nat)] 102)
     simp only[World.setCells,Nat.reduceAdd] at q4
     refine znj (M:=(⟨kind,ix,sub,tg,la,cr,sz,size,code,data,sq,bl,em,sum⟩:Ms)) (A:=A3) (n:=n3) (c:=c3) (v:= .int .u32 ((0:Nat):Int)) rfl rfl rfl q4 rfl (HE.out _ 0 (⟨kind,ix,sub,tg,la,cr,sz,size,code,data,sq,bl,em,sum⟩:Ms) A3 n3 c3 _ HKS.out HM.out HRC.out ?_ ?_)
     · exact ((ze1 HO.out lq _ _ _ _ _ _ _ _ _ _ _ _ _ _).alloc _).mono hszW
     · repeat' (first | with_reducible assumption | with_reducible exact Below.refl _ _ | with_reducible apply zc1 | with_reducible apply zdm | with_reducible apply zdl | (with_reducible apply zc0;with_reducible assumption) | (with_reducible apply zdn;(first | exact Nat.le_refl _ | (simp;done) | omega)))
   · have d2:(er != 0)=true:=by simp[he]
     have hrc2:sdRc X b=84148225:=by rw[hrc,if_neg he]
     have HRC:=zak hrc2
     clear hrc2 hrc he
     go_wp2_with fail
     have q4:=(znh (vs:= [.int .i64 kind,.int .i64 ix,.int .i64 sub,.bool tg,.bool la,.bool cr,.bool sz,.int .u32 (size:Nat),.int .u32 (code:Nat),.slice A3 n3 c3,.int .i64 sq,.int .i64 bl,.int .i64 em,.int .u16 (sum:Nat)]) HQR.out rfl rfl).alloc (.cells #[.int .i64 kind,.int .i64 ix,.int .i64 sub,.bool tg,.bool la,.bool cr,.bool sz,.int .u32 (size:Nat),.int .u32 (code:Nat),.slice A3 n3 c3,.int .i64 sq,.int .i64 bl,.int .i64 em,.int .u16 (sum:Nat)] 102)
     simp only[World.setCells,Nat.reduceAdd] at q4
     refine znj (M:=(⟨kind,ix,sub,tg,la,cr,sz,size,code,data,sq,bl,em,sum⟩:Ms)) (A:=A3) (n:=n3) (c:=c3) (v:= .int .u32 ((84148225:Nat):Int)) rfl rfl rfl q4 rfl (HE.out _ 84148225 (⟨kind,ix,sub,tg,la,cr,sz,size,code,data,sq,bl,em,sum⟩:Ms) A3 n3 c3 _ HKS.out HM.out HRC.out ?_ ?_)
     · exact ((ze1 HO.out lq _ _ _ _ _ _ _ _ _ _ _ _ _ _).alloc _).mono hszW
     · repeat' (first | with_reducible assumption | with_reducible exact Below.refl _ _ | with_reducible apply zc1 | with_reducible apply zdm | with_reducible apply zdl | (with_reducible apply zc0;with_reducible assumption) | (with_reducible apply zdn;(first | exact Nat.le_refl _ | (simp;done) | omega)))
end
end
end Go.Proofs.YthdbckbpldlkeaaGreat
