/- None -/
import Derived.Test.YtehabbnohoomjaaGreatDoorP19
import Derived.Test.YtehabbnohoomjaaGreatDoorChecked
import Derived.LaidEql
import Derived.Stop.Asserts
namespace Go.Proofs.YtehabbnohoomjaaGreatDoor
set_option linter.unusedVariables false
set_option linter.unusedSimpArgs false
set_option linter.unnecessarySimpa false
section
section
open Go.RowKit
set_option maxRecDepth 20000
set_option maxHeartbeats 8000000
theorem zk9 {S:FS} {m:Nat}:(placeJ (openJ S) S m=(0,false,false)∧ rplaceJ S m=(-1,false))∨
 ∃ (i:Nat) (er:Bool),placeJ (openJ S) S m=(i,er,true)∧ rplaceJ S m=(((1024 * i+(if er=true then 0 else ((looksF S).getD i lookZ).en):Nat):Int),er):= by
 have hlooks:(openJ S).looks=looksF S:=rfl
 have hlast:lastJ (openJ S)=(looksF S).getD (newL (looksF S)).1 lookZ:=rfl
 have hhas:(openJ S).has=(newL (looksF S)).2:=rfl
 unfold placeJ rplaceJ
 rw[hlooks,hlast,hhas]
 by_cases hb:((newL (looksF S)).2 && roomL ((looksF S).getD (newL (looksF S)).1 lookZ) m)=true
 · rw[if_pos hb,if_pos hb]
   refine .inr ⟨(newL (looksF S)).1,false,rfl,?_⟩
   congr 1
   rw[if_neg (by decide)]
   omega
 · rw[if_neg hb,if_neg hb]
   by_cases hn:(nextL (looksF S) S.wear S.most).2=true
   · rw[if_pos hn,if_pos hn]
     refine .inr ⟨_,_,rfl,?_⟩
     congr 1
     cases hbg:begunL ((looksF S).getD (nextL (looksF S) S.wear S.most).1 lookZ)
     · have hc:((looksF S).getD (nextL (looksF S) S.wear S.most).1 lookZ).en=0:=by
        unfold begunL at hbg
        simp only[Bool.or_eq_false_iff,decide_eq_false_iff_not] at hbg
        have h0:((looksF S).getD (nextL (looksF S) S.wear S.most).1 lookZ).cnt=0:=by omega
        by_cases hl:(nextL (looksF S) S.wear S.most).1 < S.wear.length
        · rw[zgz S hl] at h0 ⊢
          rw[zg2 h0]
        · rw[List.getD_eq_getElem?_getD,List.getElem?_eq_none (by rw[zgx];omega)]
          rfl
       rw[if_neg (by decide),hc]
       omega
     · rw[if_pos rfl]
       omega
   · rw[if_neg hn,if_neg hn]
     exact .inl ⟨rfl,rfl⟩
theorem zla (S:FS) (k:Nat) (l:List UInt8):(progF S k l).2=0∨(progF S k l).2=7:=by
 induction l generalizing S k with
 | nil=>exact .inl rfl
 | cons x l ih=>
   rw[progF]
   split
   · exact .inr rfl
   · exact ih _ _
theorem zlb (S:FS) (i:Nat) (hl:S.b.length=1024 * S.wear.length) (hi:i < S.wear.length):(eraseF S i).1.b.length=S.b.length∧(eraseF S i).1.ops≤S.ops+1∧(S.ahead=0→(eraseF S i).2=7)∧ (S.ahead≠0→(eraseF S i).2=0∧(eraseF S i).1.off=S.off):= by
 unfold eraseF
 split
 · rename_i h
   exact⟨zfs (by rw[List.length_replicate];omega),by simp only[];omega,fun _=>rfl,fun h2=>absurd h h2⟩
 · rename_i h
   exact⟨zfs (by rw[List.length_replicate];omega),by simp only[];omega,fun h2=>absurd h2 h,fun _=>⟨rfl,rfl⟩⟩
def layS (S:FS) (i:Nat) (er:Bool):FS:=if er=true then (eraseF S i).1 else S
def layA (S:FS) (i:Nat) (er:Bool):Nat:=1024 * i+(if er=true then 0 else ((looksF S).getD i lookZ).en)
theorem zlc {S:FS} {kd:Int} {d:List UInt8} {i:Nat} {er:Bool} (hoff:S.off=false) (hm:numJ (openJ S)≠ 4294967295) (hr:rightR kd (numJ (openJ S)+1) d.length=0) (hp:placeJ (openJ S) S d.length=(i,er,true)) :
 ((er=true∧S.ahead=0)→ (appJ (openJ S) S kd d).2=((eraseF S i).1,7))∧ (¬ (er=true∧S.ahead=0)→ (appJ (openJ S) S kd d).2=progF (layS S i er) (layA S i er) (recB kd (numJ (openJ S)+1) d)):= by
 have hlay:∀ (J:JS) (S1:FS) (x:LK),(layJ J S1 i x kd (numJ (openJ S)+1) d).2=progF S1 (1024 * i+x.en) (recB kd (numJ (openJ S)+1) d):= by
  intro J S1 x
  unfold layJ
  obtain⟨⟨S',e⟩,h⟩:∃ r,r=progF S1 (1024 * i+x.en) (recB kd (numJ (openJ S)+1) d):= ⟨_,rfl⟩
  rw[← h]
  dsimp only
  by_cases he:e=0
  · rw[if_pos he,he]
  · rw[if_neg he]
 unfold appJ
 rw[if_neg (by rw[show (openJ S).dead=false from rfl,hoff];decide),if_neg hm,if_neg (by rw[hr];decide),hp]
 dsimp only
 rw[if_neg (by decide)]
 cases er
 · refine⟨fun h=>absurd h.1 (by decide),fun _=>?_⟩
   rw[if_neg (by decide),hlay]
   rfl
 · rw[if_pos rfl]
   by_cases h0:S.ahead=0
   · refine⟨fun _=>?_,fun h=>absurd ⟨rfl,h0⟩ h⟩
     have h7:(eraseF S i).2=7:=by unfold eraseF;rw[if_pos h0]
     obtain⟨⟨S',e⟩,h⟩:∃ r,r=eraseF S i:=⟨_,rfl⟩
     rw[← h] at h7 ⊢
     dsimp only at h7 ⊢
     subst h7
     rw[if_neg (by decide)]
   · refine⟨fun h=>absurd h.2 h0,fun _=>?_⟩
     have h7:(eraseF S i).2=0:=by unfold eraseF;rw[if_neg h0]
     unfold layS
     rw[if_pos rfl]
     obtain⟨⟨S',e⟩,h⟩:∃ r,r=eraseF S i:=⟨_,rfl⟩
     rw[← h] at h7 ⊢
     dsimp only at h7 ⊢
     subst h7
     rw[if_pos rfl,hlay]
     rfl
def RAppX (q:FP) (r:Nat) (S:FS) (A:Option Addr) (c:Nat) (R:FS×Int) (w:World) (e:Ending) (w':World):Prop:=e= .returned (.int .i64 R.2)∧ RF w' q R.1∧zcj (fun g=>g=r∨q.F g) w w'∧
 ((R.2=0∧ ∃ A' c',Blk w' r 166 (rjS q.p R.1 A' c' false).toArray)∨ (R.2=7∧Blk w' r 166 (rjS q.p S A c true).toArray)∨ (R.2≠0∧R.2≠7∧R.1=S∧Blk w' r 166 (rjS q.p S A c false).toArray))
theorem zld (kd:Int) (q:FP) (S:FS) (r:Nat) (A:Option Addr) (c:Nat) (A2:Option Addr) (m c2:Nat) (d:List UInt8) (w:World) (hD:RF w q S) (hB:Blk w r 166 (rjS q.p S A c false).toArray) (hr: ¬ q.F r)
 (hoff:S.off=false) (hm:m=d.length) (hml:m≤1000) (hs:Sl w A2 (d.map bv)) (hops:S.ops+2000 < 4611686018427387904) :
 Calls Tryz.prog 146 #[.pointer (some ⟨r,0,none⟩),.int .i64 kd,.slice A2 m c2] w (RAppX q r S A c (appJ (openJ S) S kd d).2 w):= by
 have HD:=zak hD
 have HBK:=zak hB
 have HOF:=zak hoff
 have HR:=zak hr
 have HOPS:=zak hops
 have hlen:=hD.fit.len
 have hu:=zj8 (S:=S)
 obtain⟨num,hnum⟩:∃ n,n=(recS S).2.1:=⟨_,rfl⟩
 have hnj:numJ (openJ S)=num:=by rw[hnum,zk0]
 have hz:=hD.lt
 unfold rjS rjC at hB
 have z0:=hB.lt
 have c0:=hB.cell 0 (u:= .pointer (some ⟨q.p,0,none⟩)) rfl
 have c2':=hB.cell 2 (u:= .int .u32 ((recS S).2.1:Nat)) rfl
 have c6:=hB.cell 6 (u:= .bool false) rfl
 rw[← hnum] at c2' hu
 obtain⟨⟨-,-,-,f3,-⟩,-⟩:= hD.c
 rw[hoff] at f3
 by_cases hx:num=4294967295
 · have e1:((num:Int) == 4294967295)=true:=by simp;omega
   have hE:(appJ (openJ S) S kd d).2=(S,6):= by
    unfold appJ
    rw[if_neg (by rw[show (openJ S).dead=false from rfl,hoff];decide),if_pos (by rw[hnj];exact hx)]
   rw[hE]
   clear hD hB hnum hx hz hlen hoff hs hr hops hm hnj hE
   go_enter Tryz.func146,Tryz.ntmps146
   go_wp2_with fail
   go_ret
   exact (⟨rfl,HD.out,zcj.refl _ _,.inr (.inr ⟨show (6:Int)≠ 0 by decide,show (6:Int)≠ 7 by decide,rfl,HBK.out⟩)⟩:RAppX q r S A c (S,6) w _ _)
 have e1:((num:Int) == 4294967295)=false:=by simp;omega
 have hnu:num+1≤4294967295:=by unfold U32 at hu;omega
 have hbu:=zej A2 kd (num+1) m c2 d w hm hs (by unfold U32;omega)
 obtain⟨E,hE⟩:∃ E,E=rightR kd (num+1) m:=⟨_,rfl⟩
 rw[← hE,show (((num+1:Nat)):Int)=(num:Int)+1 by omega] at hbu
 have HBU:=zak hbu
 by_cases h0:E=0
 · subst h0
   obtain⟨_,_,hd960,_,_⟩:= zed _ _ _ hE.symm
   have hrr:rightR kd (numJ (openJ S)+1) d.length=0:=by rw[hnj,← hm];exact hE.symm
   have hBl:(recB kd (num+1) d).length=m+13:=by rw[(zfa [] [] d kd (num+1) (by rw[← hm];exact hE.symm) (by unfold U32;omega)).2,hm]
   have HBL:=zak hBl
   have HPLW:=zak (fun W (h1:RF W q S) (h2:Blk W r 166 (rjS q.p S A c false).toArray)=> zj7 q S r A c m W h1 h2 (by omega))
   have hi8:=hD.fit.wl8
   have HZ:=zak hz
   rcases zk9 (S:=S) (m:=m) with ⟨hpl1,hpl2⟩ | ⟨i,er,hpl1,hpl2⟩
   · have hAP:(appJ (openJ S) S kd d).2=(S,10):= by
      unfold appJ
      rw[if_neg (by rw[show (openJ S).dead=false from rfl,hoff];decide),if_neg (by rw[hnj];exact hx),if_neg (by rw[hrr];decide),← hm,hpl1]
      rfl
     rw[hAP]
     rw[hpl2] at HPLW
     clear hD hB hnum hx hz hlen hoff hs hr hops hm hbu hE hpl1 hpl2 hBl hi8 hd960 hrr hnj hAP
     go_enter Tryz.func146,Tryz.ntmps146
     go_wp2_with fail
     refine HBU.out.mono ?_
     rintro e w1 ⟨A3,n3,c3,rfl,hO3,hb1⟩
     have HB1:=zak hb1
     have HD1:=zak (HD.out.below hb1)
     have HBK1:=zak (HBK.out.below hb1 HBK.out.lt)
     have d0:=(hb1.cell (p:=⟨r,0,none⟩) z0).trans c0
     clear hO3 hb1
     go_wp2_with fail
     refine (HPLW.out w1 HD1.out HBK1.out).mono ?_
     rintro e w2 ⟨rfl,hb2⟩
     dsimp only
     have HD2:=zak (HD1.out.below hb2)
     have HBK2:=zak (HBK1.out.below hb2 HBK1.out.lt)
     have HB2:=zak (zbd hb2 HB1.out)
     clear hb2
     go_wp2_with fail
     go_ret
     exact (⟨rfl,HD2.out,zcj.of_below HB2.out,.inr (.inr ⟨show (10:Int)≠ 0 by decide,show (10:Int)≠ 7 by decide,rfl,HBK2.out⟩)⟩:RAppX q r S A c (S,10) w _ _)
   · obtain⟨hi,hpe,hpw⟩:= zj3 hlen hpl1 hd960
     have hAL:=zlc (kd:=kd) hoff (by rw[hnj];exact hx) hrr (by rw[← hm];exact hpl1)
     rw[hnj] at hAL
     rw[hpl2] at HPLW
     change Hid (∀ W,_→_→Calls Tryz.prog _ _ W (RPlaceR (((layA S i er:Nat):Int),er) W)) at HPLW
     obtain⟨at_,hat⟩:∃ n,n=layA S i er:=⟨_,rfl⟩
     rw[← hat] at HPLW hAL
     have hatb:at_+m+13≤1024 * i+1024∧1024 * i≤at_∧(er=true→at_=1024 * i):= by
      rw[hat]
      unfold layA
      cases er
      · have:=hpe rfl
        rw[if_neg (by decide)]
        exact⟨by omega,by omega,fun h=>by cases h⟩
      · rw[if_pos rfl]
        exact⟨by omega,by omega,fun _=>by omega⟩
     have ha10:at_≤10000:=by omega
     have hneg:decide ((at_:Int) < 0)=false:=by simp
     have HAT:=zak hatb
     have HI:=zak (And.intro hi (And.intro hlen hpw))
     obtain⟨R,hR⟩:∃ R,R=(appJ (openJ S) S kd d).2:=⟨_,rfl⟩
     rw[← hR] at hAL ⊢
     by_cases hbt:er=true∧S.ahead=0
     · have HRE:=zak (hAL.1 hbt)
       obtain⟨rfl,hah⟩:= hbt
       have hk:=(zlb S i hlen hi).2.2.1 hah
       have hER:=fun W (h:RF W q S)=> zkz q S i W h hoff hi (by omega) (hpw rfl)
       rw[hk] at hER
       have HER:=zak hER
       have e5:(at_:Int) / 1024=(i:Int):= by have:=hatb.2.2 rfl;omega
       clear hD hB hnum hx hz hlen hoff hs hr hops hm hbu hE hpl1 hpl2 hBl hi8 hd960 hrr hnj hAL hR hat hatb hpe hpw hi hah hk hER
       go_enter Tryz.func146,Tryz.ntmps146
       go_wp2_with fail
       refine HBU.out.mono ?_
       rintro e w1 ⟨A3,n3,c3,rfl,hO3,hb1⟩
       have HB1:=zak hb1
       have HD1:=zak (HD.out.below hb1)
       have HBK1:=zak (HBK.out.below hb1 HBK.out.lt)
       have d0:=(hb1.cell (p:=⟨r,0,none⟩) z0).trans c0
       clear hO3 hb1
       go_wp2_with fail
       refine (HPLW.out w1 HD1.out HBK1.out).mono ?_
       rintro e w2 ⟨rfl,hb2⟩
       dsimp only
       have HD2:=zak (HD1.out.below hb2)
       have HBK2:=zak (HBK1.out.below hb2 HBK1.out.lt)
       have HB2:=zak (zbd hb2 HB1.out)
       have e0:=(hb2.cell (p:=⟨r,0,none⟩) HBK1.out.lt).trans d0
       clear hb2
       go_wp2_with fail
       refine (HER.out _ HD2.out).mono ?_
       rintro e w3 ⟨rfl,hF3,hO3⟩
       have hbk:Blk w3 r 166 (rjS q.p S A c false).toArray:=(hO3.block r HBK2.out.lt HR.out).trans HBK2.out
       have g6:=hbk.frozen 6
       have h6:=hbk.cell 6 (u:= .bool false) rfl
       have HBK3:=zak hbk
       have HF3:=zak hF3
       have HO3:=zak hO3
       clear hbk hF3 hO3
       go_wp2_with fail
       go_ret
       rw[HRE.out]
       refine (⟨rfl,RF.only HF3.out (zhd _ _:zcj (fun g=>g=r) _ _) (fun g hg he=>HR.out (he ▸ hg)),?_,.inr (.inl ⟨rfl,zhz HBK3.out 6 (.bool true)⟩)⟩:RAppX q r S A c ((eraseF S i).1,7) w _ _)
       exact (((zcj.of_below (F:=fun g=>g=r∨q.F g) HB2.out).trans HO3.out (fun _ _ h=> .inr h)).set _ (.inl rfl) _)
     · have hRE:=hAL.2 hbt
       obtain⟨SX,hSX⟩:∃ X,X=layS S i er:=⟨_,rfl⟩
       rw[← hSX] at hRE
       have hXe:er=true→(eraseF S i).2=0∧SX=(eraseF S i).1:=fun h=>⟨((zlb S i hlen hi).2.2.2 (fun h0=>hbt ⟨h,h0⟩)).1,by rw[hSX];unfold layS;rw[if_pos h]⟩
       have hXf:er=false→SX=S:=fun h=>by rw[hSX];unfold layS;rw[if_neg (by rw[h];decide)]
       have hXp:SX.off=false∧SX.b.length=S.b.length∧SX.ops≤S.ops+1:=by
        cases er
        · rw[hXf rfl];exact⟨hoff,rfl,by omega⟩
        · obtain⟨h1,h2,_,h4⟩:= zlb S i hlen hi
          rw[(hXe rfl).2]
          exact⟨(h4 (fun h0=>hbt ⟨rfl,h0⟩)).2.trans hoff,h1,h2⟩
       have HXP:=zak hXp
       have HXE:=zak hXe
       have HXF:=zak hXf
       obtain⟨e9,he9⟩:∃ e,e=R.2:=⟨_,rfl⟩
       have hc9:e9=0∨e9=7:=by rw[he9,hRE];exact zla _ _ _
       have HRE:=zak hRE
       have HE9:=zak he9
       clear hD hB hnum hx hz hlen hoff hs hr hops hm hbu hE hpl1 hpl2 hBl hi8 hd960 hrr hnj hAL hR hat hatb hpe hpw hi hRE hSX hXe hXf hXp hbt he9
       go_enter Tryz.func146,Tryz.ntmps146
       go_wp2_with fail
       refine HBU.out.mono ?_
       rintro e w1 ⟨A3,n3,c3,rfl,hO3,hb1⟩
       have HO3:=zak hO3
       have HB1:=zak hb1
       have HD1:=zak (HD.out.below hb1)
       have HBK1:=zak (HBK.out.below hb1 HBK.out.lt)
       have HN3:Hid (n3=m+13):= zak (by rw[hO3.hn,HBL.out])
       have d0:=(hb1.cell (p:=⟨r,0,none⟩) z0).trans c0
       clear hO3 hb1
       go_wp2_with fail
       refine (HPLW.out w1 HD1.out HBK1.out).mono ?_
       rintro e w2 ⟨rfl,hb2⟩
       dsimp only
       have HO32:=zak (HO3.out.below hb2)
       have HD2:=zak (HD1.out.below hb2)
       have HBK2:=zak (HBK1.out.below hb2 HBK1.out.lt)
       have HB2:=zak (zbd hb2 HB1.out)
       have e0:=(hb2.cell (p:=⟨r,0,none⟩) HBK1.out.lt).trans d0
       clear hb2
       go_upto_region 12 with fail
       go_cut [68] (fun s wx=>s= .bool false∧Hid (RF wx q SX)∧ Hid (zcj q.F w2 wx))
       case first=>
        cases er
        · obtain rfl:=HXF.out rfl
          go_wp2_with fail
          go_meet
          case rel=>exact⟨rfl,HD2,zak (zcj.refl _ _)⟩
        · have e5:(at_:Int) / 1024=(i:Int):= by have:=HAT.out.2.2 rfl;omega
          have hER:=zkz q S i w2 HD2.out HOF.out HI.out.1 (by have:=HOPS.out;omega) (HI.out.2.2 rfl)
          rw[(HXE.out rfl).1,← (HXE.out rfl).2] at hER
          have HER:=zak hER
          clear hER
          go_wp2_with fail
          refine HER.out.mono ?_
          rintro e w3 ⟨rfl,hF3,hO3⟩
          have HH:=zak (And.intro hF3 hO3)
          clear hF3 hO3
          go_wp2_with fail
          go_meet
          case rel=>exact⟨rfl,zak HH.out.1,zak HH.out.2⟩
       case rest=>
        obtain⟨rfl,HF3,HO3'⟩:= hcut
        have hbk:Blk wc r 166 (rjS q.p S A c false).toArray:=(HO3'.out.block r HBK2.out.lt HR.out).trans HBK2.out
        have k0:=hbk.cell 0 (u:= .pointer (some ⟨q.p,0,none⟩)) rfl
        clear hbk
        have hap:at_+n3≤SX.b.length:=by rw[HXP.out.2.1,HI.out.2.1];have:=HI.out.1;have:=HAT.out.1;have:=HN3.out;omega
        have hsrc:∀ W,zcj q.F wc W→Sl W A3 ((recB kd (num+1) d).map bv):= by
         intro W hW
         refine Own.sl (B:=w.heap.size) (e:=5) (n:=n3) (c:=c3) (HO32.out.own.keep (fun g hg hlt _=>?_))
         have hnF: ¬ q.F g:=fun h=>by have:=HZ.out g h;omega
         rw[hW.block g (Nat.lt_of_lt_of_le hlt HO3'.out.size) hnF,HO3'.out.block g hlt hnF]
        have hPR:=zky q SX at_ A3 n3 c3 (recB kd (num+1) d) wc HF3.out (by rw[HBL.out];exact HN3.out) HXP.out.1 hap hsrc (by have:=HXP.out.2.2;have:=HOPS.out;have:=HN3.out;omega)
        rw[← HRE.out,← HE9.out] at hPR
        have HPR:=zak hPR
        clear hap hsrc hPR
        rcases hc9 with rfl | rfl
        · go_wp2_with fail
          refine HPR.out.mono ?_
          rintro e w4 ⟨rfl,hF4,hO4⟩
          have HO4:Hid (zcj q.F w2 w4):= zak (HO3'.out.trans hO4 (fun _ _ h=>h))
          have hBK4:Blk w4 r 166 (rjS q.p S A c false).toArray:=(HO4.out.block r HBK2.out.lt HR.out).trans HBK2.out
          have HTL:=zak (zjs q R.1 r _ _ _ _ _ _ _ _ w4 hF4 hBK4)
          have HF4:=zak hF4
          clear hF4 hO4 hBK4
          go_wp2_with fail
          refine HTL.out.mono ?_
          rintro e w5 ⟨A5,c5,rfl,hB5,-,hO5⟩
          have HO5:=zak hO5
          have HB5:=zak hB5
          clear hO5 hB5
          go_wp2_with fail
          go_ret
          refine (⟨by rw[← HE9.out],RF.only HF4.out HO5.out (fun g hg he=>HR.out (he ▸ hg)),?_,.inl ⟨HE9.out.symm,A5,c5,HB5.out⟩⟩:RAppX q r S A c R w _ _)
          exact ((zcj.of_below (F:=fun g=>g=r∨q.F g) HB2.out).trans HO4.out (fun _ _ h=> .inr h)).trans HO5.out (fun _ _ h=> .inl h)
        · go_wp2_with fail
          refine HPR.out.mono ?_
          rintro e w4 ⟨rfl,hF4,hO4⟩
          have HO4:Hid (zcj q.F w2 w4):= zak (HO3'.out.trans hO4 (fun _ _ h=>h))
          have hBK4:Blk w4 r 166 (rjS q.p S A c false).toArray:=(HO4.out.block r HBK2.out.lt HR.out).trans HBK2.out
          have g6:=hBK4.frozen 6
          have h6:=hBK4.cell 6 (u:= .bool false) rfl
          have HBK4:=zak hBK4
          have HF4:=zak hF4
          clear hF4 hO4 hBK4
          go_wp2_with fail
          go_ret
          refine (⟨by rw[← HE9.out],RF.only HF4.out (zhd _ _:zcj (fun g=>g=r) _ _) (fun g hg he=>HR.out (he ▸ hg)),?_,.inr (.inl ⟨HE9.out.symm,zhz HBK4.out 6 (.bool true)⟩)⟩:RAppX q r S A c R w _ _)
          exact (((zcj.of_below (F:=fun g=>g=r∨q.F g) HB2.out).trans HO4.out (fun _ _ h=> .inr h)).set _ (.inl rfl) _)
 · have h0':(E != 0)=true:=by simpa using h0
   have hAP:(appJ (openJ S) S kd d).2=(S,E):= by
    unfold appJ
    rw[if_neg (by rw[show (openJ S).dead=false from rfl,hoff];decide),if_neg (by rw[hnj];exact hx),if_pos (by rw[hnj,← hm,← hE];exact h0),hnj,← hm,← hE]
   have hE7:E≠7:=by
    rw[hE]
    unfold rightR
    (repeat' split)<;> decide
   rw[hAP]
   clear hD hB hnum hx hz hlen hoff hs hr hops hm hbu hE hnj hAP
   go_enter Tryz.func146,Tryz.ntmps146
   go_wp2_with fail
   refine HBU.out.mono ?_
   rintro e w1 ⟨A3,n3,c3,rfl,hO3,hb1⟩
   have HB1:=zak hb1
   clear hO3 hb1
   go_wp2_with fail
   go_ret
   exact (⟨rfl,HD.out.below HB1.out,zcj.of_below HB1.out,.inr (.inr ⟨h0,hE7,rfl,HBK.out.below HB1.out HBK.out.lt⟩)⟩:RAppX q r S A c (S,E) w _ _)
end
end
section
open Go.RowKit Go.Extern.Stop Go.Stop Go.Extern
set_option maxRecDepth 20000
set_option maxHeartbeats 4000000
def hdl (t:TypeId):Value:= .pointer (some ⟨6,t,none⟩)
def rty (t:TypeId):Value:= .iface 238 (.agg #[hdl t])
def rvl (t:TypeId) (a:Addr) (k:Int):Value:= .agg #[hdl t,.pointer (some a),.int .u64 k]
theorem zle (v:Value) (w:World):(Extern.ReflectliteType.typeOf #[.iface 183 v]).run Tryz.prog w= .ok (rty 183) w:=by kernel_rfl
theorem zlf (v:Value) (w:World):(Extern.ReflectliteType.typeOf #[.iface 180 v]).run Tryz.prog w= .ok (rty 180) w:=by kernel_rfl
theorem zlg (v:Value) (w:World):(Extern.ReflectliteType.typeOf #[.iface 279 v]).run Tryz.prog w= .ok (rty 279) w:=by kernel_rfl
theorem zlh (v:Value) (n:Nat) (w:World):(Go.method (n+1) 238 (.agg #[v]) "Kind").run Tryz.prog w= .ok (238,v) w:=by kernel_rfl
theorem zli (v:Value) (n:Nat) (w:World):(Go.method (n+1) 238 (.agg #[v]) "Elem").run Tryz.prog w= .ok (252,.agg #[v]) w:=by kernel_rfl
theorem zlj (v:Value) (n:Nat) (w:World):(Go.method (n+1) 238 (.agg #[v]) "Implements").run Tryz.prog w= .ok (253,.agg #[v]) w:=by kernel_rfl
theorem zlk (v:Value) (n:Nat) (w:World):(Go.method (n+1) 238 (.agg #[v]) "AssignableTo").run Tryz.prog w= .ok (250,.agg #[v]) w:=by kernel_rfl
theorem m_cmp (v:Value) (n:Nat) (w:World):(Go.method (n+1) 238 (.agg #[v]) "Comparable").run Tryz.prog w= .ok (251,.agg #[v]) w:=by kernel_rfl
theorem m_unw (v:Value) (n:Nat) (w:World):(Go.method (n+1) 183 v "Unwrap").run Tryz.prog w= .ok (245,v) w:=by kernel_rfl
theorem m_is (v:Value) (n:Nat) (w:World):(Go.method (n+1) 180 v "Is").run Tryz.prog w= .ok (243,v) w:=by kernel_rfl
theorem zll (a:Addr) (w:World):(Extern.ReflectliteValue.unpack (.iface 185 (.pointer (some a)))).run Tryz.prog w= .ok (rvl 185 ⟨w.heap.size,0,none⟩ 150) (w.alloc (.cells #[.pointer (some a)] 185)):= by kernel_rfl
theorem zlm (a:Addr) (w:World):(Extern.ReflectliteValue.unpack (.iface 183 (.pointer (some a)))).run Tryz.prog w= .ok (rvl 183 ⟨w.heap.size,0,none⟩ 150) (w.alloc (.cells #[.pointer (some a)] 183)):= by kernel_rfl
def fType:Array Value→Sem Value:=Extern.ReflectliteValue.methodAny (Extern.ReflectliteValue.valueError "reflectlite.Value.Type" 0) fun t _ _ _=>Extern.ReflectliteType.toType t
def fNil:Array Value→Sem Value:=Extern.ReflectliteValue.method (Extern.ReflectliteValue.valueError "reflectlite.Value.IsNil" 0) Extern.ReflectliteValue.isNil
def fElem:Array Value→Sem Value:=Extern.ReflectliteValue.method (Extern.ReflectliteValue.valueError "reflectlite.Value.Elem" 0) Extern.ReflectliteValue.elem
def fKind:Array Value→Sem Value:=Extern.ReflectliteType.abiMethod fun t=>do pure (.int .u8 (← Extern.Rtype.kind t))
def fImpl:Array Value→Sem Value:=Extern.ReflectliteType.relation "Implements" Extern.ReflectliteType.implements_
def fAsg:Array Value→Sem Value:=Extern.ReflectliteType.relation "AssignableTo" Extern.ReflectliteType.assignableTo
theorem vt_l (a:Addr) (w:World):(fType #[rvl 185 a 150]).run Tryz.prog w= .ok (rty 185) w:=by kernel_rfl
theorem zln (w:World):(fKind #[hdl 185]).run Tryz.prog w= .ok (.int .u8 22) w:=by kernel_rfl
theorem kd_l (w:World):(fKind #[hdl 183]).run Tryz.prog w= .ok (.int .u8 22) w:=by kernel_rfl
theorem el_l (w:World):(Extern.ReflectliteType.method Extern.ReflectliteType.elem #[.agg #[hdl 185]]).run Tryz.prog w= .ok (rty 183) w:=by kernel_rfl
theorem im_l (w:World):(fImpl #[.agg #[hdl 183],rty 143]).run Tryz.prog w= .ok (.bool true) w:=by kernel_rfl
theorem as_ll (w:World):(fAsg #[.agg #[hdl 183],rty 183]).run Tryz.prog w= .ok (.bool true) w:=by kernel_rfl
theorem as_sl (w:World):(fAsg #[.agg #[hdl 279],rty 183]).run Tryz.prog w= .ok (.bool false) w:=by kernel_rfl
theorem as_wl (w:World):(fAsg #[.agg #[hdl 180],rty 183]).run Tryz.prog w= .ok (.bool false) w:=by kernel_rfl
theorem lv (a:Addr) (w:World):(loadVar 185 a).run Tryz.prog w=(load a).run Tryz.prog w:=by kernel_rfl
theorem lv_l (a:Addr) (w:World):(loadVar 183 a).run Tryz.prog w=(load a).run Tryz.prog w:=by kernel_rfl
theorem eq_l (w:World):(Extern.Rtype.elem? 185).run Tryz.prog w= .ok (some 183) w:=by kernel_rfl
theorem mk_l (a:Addr) (w:World):(Extern.ReflectliteValue.mk 183 a Extern.ReflectliteValue.flagAddr).run Tryz.prog w= .ok (rvl 183 a 406) w:=by kernel_rfl
theorem da_l (w:World):(Extern.Rtype.directlyAssignable 183 183).run Tryz.prog w= .ok true w:=by kernel_rfl
theorem pa_l (a:Addr) (w:World):(Extern.ReflectliteValue.parts (rvl 185 a 150)).run Tryz.prog w= .ok (some (185,a,150)) w:=by kernel_rfl
theorem pb_l (a:Addr) (w:World):(Extern.ReflectliteValue.parts (rvl 183 a 150)).run Tryz.prog w= .ok (some (183,a,150)) w:=by kernel_rfl
theorem pc_l (a:Addr) (w:World):(Extern.ReflectliteValue.parts (rvl 183 a 406)).run Tryz.prog w= .ok (some (183,a,406)) w:=by kernel_rfl
theorem zlo (a b:Addr) (w:World) (h:w.cell? a=some (.pointer (some b))):(fNil #[rvl 185 a 150]).run Tryz.prog w= .ok (.bool false) w:=by
 show (Extern.ReflectliteValue.parts (rvl 185 a 150) >>= fun x=>match x with | none=>Extern.ReflectliteValue.valueError "reflectlite.Value.IsNil" 0 | some (t,a,fl)=> Extern.ReflectliteValue.isNil t a fl (fl % 32)).run Tryz.prog w=_
 simp[pa_l,Extern.ReflectliteValue.isNil,lv,h]
theorem zlp (a b:Addr) (w:World) (h:w.cell? a=some (.pointer (some b))):(fElem #[rvl 185 a 150]).run Tryz.prog w= .ok (rvl 183 b 406) w:=by
 show (Extern.ReflectliteValue.parts (rvl 185 a 150) >>= fun x=>match x with | none=>Extern.ReflectliteValue.valueError "reflectlite.Value.Elem" 0 | some (t,a,fl)=> Extern.ReflectliteValue.elem t a fl (fl % 32)).run Tryz.prog w=_
 simp[pa_l,Extern.ReflectliteValue.elem,lv,eq_l,h,mk_l]
theorem sz_l:(Tryz.prog.info? 183).map (·.size)=some 1:=by kernel_rfl
theorem zlq {t:TypeId} {b:Addr} {w:World} {v u:Value} (hi:(Tryz.prog.info? t).map (·.size)=some 1) (hc:w.cell? b=some u) (hf:w.frozen? b=false) (h1:v.oneCell'=true):(storeVar t b v).run Tryz.prog w= .ok () (w.setCell b v):= by
 have hvc:v.cells= #[v]:= by cases v<;>first | rfl | cases h1
 have hadd:b.add 0=b:=by unfold Addr.add;split<;>simp_all
 have hst:(store (b.add 0) v).run Tryz.prog w= .ok () (w.setCell b v):= by
  rw[hadd,run_store Tryz.prog w b v _ h1,hc]
  simp[hf]
 cases hq:Tryz.prog.info? t with
 | none=>simp[hq] at hi
 | some i=>
   have hs:i.size=1:=by simpa [hq] using hi
   simp[storeVar,sizeOf,typeInfo,hq,hvc,hs,storeCells,hst]
theorem set_l (a b:Addr) (w:World) (v u:Value) (h:w.cell? a=some v) (hb:w.cell? b=some u) (hf:w.frozen? b=false) (h1:v.oneCell'=true):(Extern.ReflectliteValue.set #[rvl 183 b 406,rvl 183 a 150]).run Tryz.prog w= .ok (.tuple #[]) (w.setCell b v):= by
 have hs:=zlq sz_l hb hf h1
 refine (show (Bind.bind (Extern.ReflectliteValue.parts (rvl 183 b 406)) _).run Tryz.prog w=_ from ?_)
 rw[Sem.run_bind,pc_l,Result.andThen_ok]
 refine (show (Bind.bind (Extern.ReflectliteValue.parts (rvl 183 a 150)) _).run Tryz.prog w=_ from ?_)
 rw[Sem.run_bind,pb_l,Result.andThen_ok]
 simp[lv_l,h,Extern.ReflectliteValue.flagAddr,da_l,hs]
end
end Go.Proofs.YtehabbnohoomjaaGreatDoor
