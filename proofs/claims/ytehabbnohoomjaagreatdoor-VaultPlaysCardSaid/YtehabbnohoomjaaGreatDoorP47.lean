/- None -/
import Derived.Test.YtehabbnohoomjaaGreatDoorP46
namespace Go.Proofs.YtehabbnohoomjaaGreatDoor
set_option linter.unusedVariables false
set_option linter.unusedSimpArgs false
set_option linter.unnecessarySimpa false
section
open Go.RowKit
set_option maxRecDepth 100000
set_option maxHeartbeats 8000000
structure PlP9 (L:List Ent) (V:List (List UInt8)) (S:FS) (X:List SV) (J:JS) (N:Nat):Prop where
 vals:ValsP L V
 good:GoodX L X
 run:RunK J S
 ops:S.ops≤N
 len:S.b.length=1024 * S.wear.length
 three:3≤S.wear.length
structure PlL (L:List Ent):Prop where
 sort:SortedE L
 right:∀ E ∈ L,rightE E=0
 few:L.length≤200
def LiveE (M lo:Nat) (w:World) (pw pd pt:Nat) (qf qr:FP) (n:Nat) (L:List Ent) (N:Nat):Prop:= ∃ V S X J odd off pv prv FR,PlP9 L V S X J N∧zzl (.pointer (some ⟨pv,0,none⟩)) (.pointer (some ⟨prv,0,none⟩)) (KR pw FR) M lo w pw pd pv qf n L V J S X odd off∧zzz w FR lo pw pd pt pv prv qf qr n L V S X odd off
def DeadE (M lo:Nat) (w:World) (pw pd pt:Nat) (qf qr:FP) (n:Nat) (L:List Ent):Prop:=w.cell? ⟨pw,4,none⟩=some (.pointer none)∧ ∃ V S,PreE M lo w pw pd pt qf qr n L V S
def DoRes (M lo pw pd pt:Nat) (qf qr:FP) (n:Nat) (L:List Ent) (N:Nat) (w:World) (e:Ending) (w':World):Prop:=e= .returned (.bool true)∧ Below lo w w'∧(LiveE M lo w' pw pd pt qf qr n L (N+1000)∨ DeadE M lo w' pw pd pt qf qr n L)
section
variable {M lo pw pd pt pv prv n N:Nat} {qf qr:FP} {L:List Ent} {V:List (List UInt8)} {J:JS} {S:FS} {X:List SV} {odd off:Bool} {FR:Nat→Prop}
def FR1 (FR:Nat→Prop) (w:World):Nat→Prop:=fun g=>FR g∨g=w.heap.size
theorem z0d {v4 v5:Value} {w:World} (ob:Obj) (h:zzl v4 v5 (KR pw FR) M lo w pw pd pv qf n L V J S X odd off):zzl v4 v5 (KR pw (FR1 FR w)) M lo (w.alloc ob) pw pd pv qf n L V J S X odd off:=
 (h.ext (zbf (Below.refl w.heap.size w) ob)).less (fun g hg=>hg.elim (fun k=> .inl (.inl k)) (fun k=>k.elim (fun k=> .inl (.inr k)) (fun k=> .inr ⟨by omega,by simp;omega⟩)))
theorem z0e {w w1 w2:World} (h:zcj (FreeK (KR pw (FR1 FR w)) lo) w1 w2):zcj (FreeK (KR pw FR) lo) w1 w2:=h.mono (fun g _ hg=>⟨hg.1,fun k=>hg.2 (k.elim .inl (fun k=> .inr (.inl k)))⟩)
theorem z0f {v4 v5:Value} {w w1 w2:World} (h:zzl v4 v5 (KR pw (FR1 FR w)) M lo w1 pw pd pv qf n L V J S X odd off) (ho:zcj (fun g=>FR g∧g≠pw) w1 w2):zzl v4 v5 (KR pw (FN FR w1 w2)) M lo w2 pw pd pv qf n L V J S X odd off:=
 (zz0 h ho (fun g hg=>⟨.inl hg.1,hg.2⟩)).less (fun g hg=>hg.elim .inl (fun k=> .inr (k.elim (fun k=> .inl (.inl k)) .inr)))
theorem zzz.frlt {w:World} (h:zzz w FR lo pw pd pt pv prv qf qr n L V S X odd off):∀ g,FR g→lo≤g∧g < w.heap.size∧g≠pw:=by
 obtain⟨rj,A,c,FX,As,ns,cs,dx,Al,clt,Avt,cvt,dt,et,Ft,h⟩:= h
 exact h.fr
theorem z0g {v4 v5:Value} {K:Nat→Prop} {w:World} (h:zzl v4 v5 K M lo w pw pd pv qf n L V J S X odd off):lo≤pw∧pw < w.heap.size:=by
 obtain⟨gl,cl,cv,Av,ds,es,Fd,pt,pr,Fj,FL,pj,nj,cj,Aj,dj,As,ns,cs,dx,h⟩:= h
 exact⟨h.loP,h.blk.lt⟩
theorem z0h {v4 v5:Value} {K:Nat→Prop} {w:World} (h:zzl v4 v5 K M lo w pw pd pv qf n L V J S X odd off):FitF S:=by
 obtain⟨gl,cl,cv,Av,ds,es,Fd,pt,pr,Fj,FL,pj,nj,cj,Aj,dj,As,ns,cs,dx,h⟩:= h
 exact h.vd.fd.fit
theorem z0i {w w8 w1 w2:World} {K F:Nat→Prop} (hb:Below w.heap.size w w8) (hlo:lo≤w.heap.size) (h1:zcj (FreeK K lo) w8 w1) (h2:zcj F w1 w2) (hF:∀ g,F g→lo≤g):Below lo w w2:=by
 have k1:=zzm h1 (hb.mono hlo) (Nat.le_refl _) hlo
 exact k1.trans (h2.below (by have:=hb.size;have:=h1.size;omega) hF)
theorem z0j {v4 v5:Value} {K:Nat→Prop} {w:World} (h:zzl v4 v5 K M lo w pw pd pv qf n L V J S X odd off):zzl v4 v5 K M lo w.drew pw pd pv qf n L V J S X odd off:=h.below (Below.drew (Below.refl _ _))
theorem z0k {w:World} (h:zzz w FR lo pw pd pt pv prv qf qr n L V S X odd off):zzz w.drew FR lo pw pd pt pv prv qf qr n L V S X odd off:=h.below (Below.drew (Below.refl _ _))
theorem z0l (gr:Int) (w:World) {v4 v5:Value} {K:Nat→Prop} (h:zzl v4 v5 K M lo w pw pd pv qf n L V J S X odd off) (h1: ¬ (1≤gr∧gr≤4)):Calls Tryz.prog 16 #[.pointer (some ⟨pv,0,none⟩),.int .i64 gr] w fun e w'=>e= .returned (.int .u32 101253168)∧ w=w':=by
 obtain⟨gl,cl,cv,Av,ds,es,Fd,pt,pr,Fj,FL,pj,nj,cj,Aj,dj,As,ns,cs,dx,h⟩:= h
 have hB:=h.vd.blk
 unfold vauC at hB
 obtain⟨hB_c0,hB_c1,hB_c2,hB_c3⟩:= zbi hB
 have hB_f:=hB.frozen
 clear h
 have HCK:=zak (zv6 (pv:=pv) (pj:=pj) gr w hB_c0)
 rw[if_neg h1] at HCK
 clear h1
 go_enter Tryz.func16,Tryz.ntmps16
 go_wp2_with fail
 refine HCK.out.mono ?_
 rintro e w1 ⟨rfl,rfl⟩
 go_wp2_with fail
 go_ret
 exact⟨rfl,rfl⟩
theorem z0m (l:List UInt8):∀ (S:FS) (k:Nat),(progF S k l).1.wear=S.wear:=by
 induction l with
 | nil=>intro S k;rfl
 | cons x l ih=>
   intro S k
   rw[progF]
   split
   · rfl
   · rw[ih]
theorem z0n (J:JS) (S:FS) (kd:Int) (d:List UInt8):(appJ J S kd d).2.1.wear.length=S.wear.length:=by
 have hlay:∀ (J:JS) (S1:FS) (i:Nat) (x:LK) (num:Nat),(layJ J S1 i x kd num d).2.1.wear=S1.wear:=by
  intro J S1 i x num
  unfold layJ
  have:=z0m (recB kd num d) S1 (1024 * i+x.en)
  obtain⟨⟨S',e⟩,h⟩:∃ r,r=progF S1 (1024 * i+x.en) (recB kd num d):= ⟨_,rfl⟩
  rw[← h] at this ⊢
  dsimp only at this ⊢
  split<;>exact this
 unfold appJ
 split
 · rfl
 · split
   · rfl
   · split
     · rfl
     · obtain⟨⟨i,er,ok⟩,h⟩:∃ r,r=placeJ J S d.length:=⟨_,rfl⟩
       rw[← h]
       dsimp only
       split
       · rfl
       · split
         · have hw:(eraseF S i).1.wear.length=S.wear.length:=by
            unfold eraseF
            split<;>simp
           obtain⟨⟨S1,e1⟩,h1⟩:∃ r,r=eraseF S i:=⟨_,rfl⟩
           rw[← h1] at hw ⊢
           dsimp only at hw ⊢
           split
           · rw[hlay];exact hw
           · exact hw
         · rw[hlay]
theorem z0o {kd:Int} {l:List SV} {R:JS×FS×Int} (hr:∀ E ∈ L,rightE E=0) (hl:S.b.length=1024 * S.wear.length) (hg:GoodX L l) (hW:WrP J S kd l R):R.2.1.wear.length=S.wear.length:=by
 obtain⟨b,er,_,hc⟩:= hW
 rcases hc with ⟨_,rfl⟩ | ⟨_,rfl⟩
 · rfl
 · exact z0n _ _ _ _
theorem z0p (ix sb on:Int) (ow:Nat) (Aj:Option Addr) (cj:Nat) (ob:List UInt8) (w:World) (hL:PlL L) (hP:PlP9 L V S X J N) (hS:zzl (.pointer (some ⟨pv,0,none⟩)) (.pointer (some ⟨prv,0,none⟩)) (KR pw FR) M lo w pw pd pv qf n L V J S X odd off) (hR:zzz w FR lo pw pd pt pv prv qf qr n L V S X odd off) (hc:ob.length≤cj) (hl:ob.length≤1000) (hb:Sl w Aj (ob.map bv)) (hbo:∀ W,Below lo w W→Sl W Aj (ob.map bv)) :
 Calls Tryz.prog 32 #[.pointer (some ⟨pw,0,none⟩),.agg #[.int .i64 0,.int .i64 ix,.int .i64 sb,.int .i64 on,.int .u32 (ow:Nat),.slice Aj ob.length cj]] w (DoRes M lo pw pd pt qf qr n L N w):= by
 have q8:=zbm w 48 #[.int .i64 0,.int .i64 ix,.int .i64 sb,.int .i64 on,.int .u32 (ow:Nat),.slice Aj ob.length cj]
 have hb8:=zbf (Below.refl w.heap.size w) (.cells #[.int .i64 0,.int .i64 ix,.int .i64 sb,.int .i64 on,.int .u32 (ow:Nat),.slice Aj ob.length cj] 48)
 have HS8:=zak (z0d (.cells #[.int .i64 0,.int .i64 ix,.int .i64 sb,.int .i64 on,.int .u32 (ow:Nat),.slice Aj ob.length cj] 48) hS)
 have HR8:=zak (hR.below hb8)
 have HP:=zak hP
 have HL:=zak hL
 have HB8:=zak hb8
 have HQ8:=zak q8
 obtain⟨hlp,hpw⟩:= z0g hS
 have HSZ:=zak (show lo≤w.heap.size∧pw < w.heap.size∧pw < (w.alloc (.cells #[.int .i64 0,.int .i64 ix,.int .i64 sb,.int .i64 on,.int .u32 (ow:Nat),.slice Aj ob.length cj] 48)).heap.size∧lo≤(w.alloc (.cells #[.int .i64 0,.int .i64 ix,.int .i64 sb,.int .i64 on,.int .u32 (ow:Nat),.slice Aj ob.length cj] 48)).heap.size from ⟨by omega,hpw,by simp;omega,by simp;omega⟩)
 have HFL:=zak hR.frlt
 have hn1:n≤1000:=by rw[hS.hn];have:=hL.few;omega
 have hn2:n≤200:=by rw[hS.hn];exact hL.few
 have hBw:=HR8.out.blk
 have c0:=hBw.cell 0 (u:= .pointer (some ⟨pd,0,none⟩)) rfl
 have c1:=hBw.cell 1 (u:= .pointer (some ⟨pt,0,none⟩)) rfl
 have c2:=hBw.cell 2 (u:= .pointer (some ⟨qf.p,0,none⟩)) rfl
 have c3:=hBw.cell 3 (u:= .pointer (some ⟨qr.p,0,none⟩)) rfl
 have c4:=hBw.cell 4 (u:= .pointer (some ⟨pv,0,none⟩)) rfl
 have c5:=hBw.cell 5 (u:= .pointer (some ⟨prv,0,none⟩)) rfl
 have o1:=q8.cell 1 (u:= .int .i64 ix) rfl
 have o2:=q8.cell 2 (u:= .int .i64 sb) rfl
 have o3:=q8.cell 3 (u:= .int .i64 on) rfl
 have o4:=q8.cell 4 (u:= .int .u32 (ow:Nat)) rfl
 have o5:=q8.cell 5 (u:= .slice Aj ob.length cj) rfl
 have HBV:=zak (hb.below hb8)
 have HBO:=zak hbo
 clear q8 hb8 hL hP hS hR hBw hb hbo
 go_enter Tryz.func32,Tryz.ntmps32
 go_wp2_with fail
 refine wp_region_held_drew (S:=(fun w'=>w'.cell? ⟨pw,0,none⟩=some (.pointer (some ⟨pd,0,none⟩))∧ w'.cell? ⟨pw,1,none⟩=some (.pointer (some ⟨pt,0,none⟩))∧ w'.cell? ⟨w.heap.size,1,none⟩=some (.int .i64 ix)∧ w'.cell? ⟨w.heap.size,2,none⟩=some (.int .i64 sb)∧ w'.cell? ⟨w.heap.size,5,none⟩=some (.slice Aj ob.length cj))) (by kernel_rfl) ?hS1 (fun hHeld=>?rest1)
 case hS1=>((try dsimp only);(exact⟨c0,c1,o1,o2,o5⟩))
 case' rest1=>skip
 iterate 10 (refine tkN ?_;try simp only[PqL,Act.put])
 refine tkH 11 ?_
 try simp only[PqL,Act.put]
 refine tkH 12 ?_
 try simp only[PqL,Act.put]
 refine tkH 13 ?_
 try simp only[PqL,Act.put]
 refine tkH 14 ?_
 try simp only[PqL,Act.put]
 refine tkH 15 ?_
 try simp only[PqL,Act.put]
 refine tkH 16 ?_
 try simp only[PqL,Act.put]
 refine tkH 17 ?_
 try simp only[PqL,Act.put]
 refine tkH 18 ?_
 try simp only[PqL,Act.put]
 refine tkH 19 ?_
 try simp only[PqL,Act.put]
 refine tkH 20 ?_
 try simp only[PqL,Act.put]
 refine wpAnyH_ready (rs:= [10]) (by kernel_rfl) (by simp) ?_
 refine AllReadyH.cons (o:=_) rfl (fun K hK=>?_) .nil
 go_simp
 refine (zzn ix sb Aj ob.length cj ob _ (HS8.out.below (Below.drew (Below.refl _ _))) HL.out.sort hn1 rfl hc (by omega) (HBV.out.below (Below.drew (Below.refl _ _)))).mono ?_
 rintro e w1 ⟨rfl,hS1,ho1'⟩
 have ho1:=zub ho1'
 have HS1:=zak hS1
 have HO1:=zak ho1
 have HR1:=zak (HR8.out.free (z0e ho1))
 have hq1:=(ho1.block _ HQ8.out.lt (fun hx=>hx.2 (.inr (.inr rfl)))).trans HQ8.out
 have HQ1:Hid (Blk w1 w.heap.size 48 #[.int .i64 0,.int .i64 ix,.int .i64 sb,.int .i64 on,.int .u32 (ow:Nat),.slice Aj ob.length cj]):= zak hq1
 have hz1:=ho1.size
 have HBV1:Hid (Sl w1 Aj (ob.map bv)):= zak (HBO.out w1 (zzm ho1 (HB8.out.mono HSZ.out.1) (Nat.le_refl _) HSZ.out.1))
 dsimp only
 clear hS1 ho1 ho1' hq1
 refine hK.out _ _ ?hS24 (fun hHeld=>?rest24)
 case hS24=>((try dsimp only);(exact⟨HR1.out.blk.cell 0 rfl,HR1.out.blk.cell 1 rfl,HQ1.out.cell 1 rfl,HQ1.out.cell 2 rfl,HQ1.out.cell 5 rfl⟩))
 case' rest24=>(clear hK K;try simp only[PqL,Act.put])
 refine wpAnyH_ready (rs:= [21]) (by kernel_rfl) (by simp) ?_
 refine AllReadyH.cons (o:=_) rfl (fun K hK=>?_) .nil
 go_simp
 refine (zz1 ix sb Aj ob.length cj ob w1 HR1.out (by have:=HSZ.out;omega) (by have:=HSZ.out;omega) hn1 rfl hc (by omega) HBV1.out).mono ?_
 rintro e w2 ⟨rfl,hR2,ho2⟩
 have HR2:=zak hR2
 have HO2:=zak ho2
 have hq2:=(ho2.block _ HQ1.out.lt (fun hx=>by have:=(HFL.out _ hx.1).2.1;omega)).trans HQ1.out
 have HQ2:Hid (Blk w2 w.heap.size 48 #[.int .i64 0,.int .i64 ix,.int .i64 sb,.int .i64 on,.int .u32 (ow:Nat),.slice Aj ob.length cj]):= zak hq2
 dsimp only
 clear hR2 ho2 hq2
 refine hK.out _ _ ?hS27 (fun hHeld=>?rest27)
 case hS27=>((try dsimp only);(exact⟨HR2.out.blk.cell 0 rfl,HR2.out.blk.cell 1 rfl,HQ2.out.cell 1 rfl,HQ2.out.cell 2 rfl,HQ2.out.cell 5 rfl⟩))
 case' rest27=>(clear hK K;try simp only[PqL,Act.put])
 refine tkH 22 ?_
 try simp only[PqL,Act.put]
 refine tkH 23 ?_
 try simp only[PqL,Act.put]
 refine wpAnyH_done (by kernel_rfl) ?_ _
 have hEnd:=hHeld.2
 repeat (clear hHeld)
 clear hEnd
 go_wp2_with fail
 go_ret
 refine (⟨rfl,z0i HB8.out HSZ.out.1 HO1.out HO2.out (fun g hg=>(HFL.out g hg.1).1),.inl ⟨_,S,X,J,odd,off,pv,prv,_,⟨zwb HL.out.sort HS8.out.lenV HP.out.vals ix sb ob true,HP.out.good,HP.out.run,by have:=HP.out.ops;omega,HP.out.len,HP.out.three⟩,z0f HS1.out HO2.out,HR2.out⟩⟩:DoRes M lo pw pd pt qf qr n L N w _ _)
theorem z0q (ix sb on:Int) (ow:Nat) (Aj:Option Addr) (cj:Nat) (ob:List UInt8) (w:World) (hL:PlL L) (hP:PlP9 L V S X J N) (hS:zzl (.pointer (some ⟨pv,0,none⟩)) (.pointer (some ⟨prv,0,none⟩)) (KR pw FR) M lo w pw pd pv qf n L V J S X odd off) (hR:zzz w FR lo pw pd pt pv prv qf qr n L V S X odd off) (a:Nat→Addr) (hG:GV w a M) (hN:N+3000 < 4611686018427387904) (h1:1≤on∧on≤4) :
 Calls Tryz.prog 32 #[.pointer (some ⟨pw,0,none⟩),.agg #[.int .i64 1,.int .i64 ix,.int .i64 sb,.int .i64 on,.int .u32 (ow:Nat),.slice Aj ob.length cj]] w (DoRes M lo pw pd pt qf qr n L N w):= by
 have q8:=zbm w 48 #[.int .i64 1,.int .i64 ix,.int .i64 sb,.int .i64 on,.int .u32 (ow:Nat),.slice Aj ob.length cj]
 have hb8:=zbf (Below.refl w.heap.size w) (.cells #[.int .i64 1,.int .i64 ix,.int .i64 sb,.int .i64 on,.int .u32 (ow:Nat),.slice Aj ob.length cj] 48)
 have HS8:=zak (z0d (.cells #[.int .i64 1,.int .i64 ix,.int .i64 sb,.int .i64 on,.int .u32 (ow:Nat),.slice Aj ob.length cj] 48) hS)
 have HR8:=zak (hR.below hb8)
 have HP:=zak hP
 have HL:=zak hL
 have HB8:=zak hb8
 have HQ8:=zak q8
 obtain⟨hlp,hpw⟩:= z0g hS
 have HSZ:=zak (show lo≤w.heap.size∧pw < w.heap.size∧pw < (w.alloc (.cells #[.int .i64 1,.int .i64 ix,.int .i64 sb,.int .i64 on,.int .u32 (ow:Nat),.slice Aj ob.length cj] 48)).heap.size∧lo≤(w.alloc (.cells #[.int .i64 1,.int .i64 ix,.int .i64 sb,.int .i64 on,.int .u32 (ow:Nat),.slice Aj ob.length cj] 48)).heap.size from ⟨by omega,hpw,by simp;omega,by simp;omega⟩)
 have HFL:=zak hR.frlt
 have hn1:n≤1000:=by rw[hS.hn];have:=hL.few;omega
 have hn2:n≤200:=by rw[hS.hn];exact hL.few
 have hBw:=HR8.out.blk
 have c0:=hBw.cell 0 (u:= .pointer (some ⟨pd,0,none⟩)) rfl
 have c1:=hBw.cell 1 (u:= .pointer (some ⟨pt,0,none⟩)) rfl
 have c2:=hBw.cell 2 (u:= .pointer (some ⟨qf.p,0,none⟩)) rfl
 have c3:=hBw.cell 3 (u:= .pointer (some ⟨qr.p,0,none⟩)) rfl
 have c4:=hBw.cell 4 (u:= .pointer (some ⟨pv,0,none⟩)) rfl
 have c5:=hBw.cell 5 (u:= .pointer (some ⟨prv,0,none⟩)) rfl
 have o1:=q8.cell 1 (u:= .int .i64 ix) rfl
 have o2:=q8.cell 2 (u:= .int .i64 sb) rfl
 have o3:=q8.cell 3 (u:= .int .i64 on) rfl
 have o4:=q8.cell 4 (u:= .int .u32 (ow:Nat)) rfl
 have o5:=q8.cell 5 (u:= .slice Aj ob.length cj) rfl
 have HG:=zak hG
 have HOP:=zak (show S.ops+2000 < 4611686018427387904 by have:=hP.ops;omega)
 clear hG
 clear q8 hb8 hL hP hS hR hBw
 go_enter Tryz.func32,Tryz.ntmps32
 go_wp2_with fail
 refine wp_region_held_drew (S:=(fun w'=>w'.cell? ⟨pw,0,none⟩=some (.pointer (some ⟨pd,0,none⟩))∧ w'.cell? ⟨pw,1,none⟩=some (.pointer (some ⟨pt,0,none⟩))∧ w'.cell? ⟨pw,4,none⟩=some (.pointer (some ⟨pv,0,none⟩))∧ w'.cell? ⟨pw,5,none⟩=some (.pointer (some ⟨prv,0,none⟩))∧ w'.cell? ⟨w.heap.size,3,none⟩=some (.int .i64 on))) (by kernel_rfl) ?hS31 (fun hHeld=>?rest31)
 case hS31=>((try dsimp only);(exact⟨c0,c1,c4,c5,o3⟩))
 case' rest31=>skip
 iterate 10 (refine tkN ?_;try simp only[PqL,Act.put])
 refine tkH 11 ?_
 try simp only[PqL,Act.put]
 refine tkH 12 ?_
 try simp only[PqL,Act.put]
 refine tkH 13 ?_
 try simp only[PqL,Act.put]
 refine tkH 14 ?_
 try simp only[PqL,Act.put]
 refine tkH 15 ?_
 try simp only[PqL,Act.put]
 refine tkH 16 ?_
 try simp only[PqL,Act.put]
 refine tkH 17 ?_
 try simp only[PqL,Act.put]
 refine tkH 18 ?_
 try simp only[PqL,Act.put]
 refine tkH 19 ?_
 try simp only[PqL,Act.put]
 refine tkH 20 ?_
 try simp only[PqL,Act.put]
 refine wpAnyH_ready (rs:= [10]) (by kernel_rfl) (by simp) ?_
 refine AllReadyH.cons (o:=_) rfl (fun K hK=>?_) .nil
 go_simp
 refine (zzq a on _ (HS8.out.below (Below.drew (Below.refl _ _))) ((HG.out.below HB8.out).below (Below.drew (Below.refl _ _))) (HP.out.run.elim (fun h=> .inl (by rw[h];simp)) .inr) HOP.out h1 hn2 (fun v hv=>Nat.le_trans (zxr HP.out.vals HS8.out.lenV v hv) (show 256≤2000 by decide))).mono ?_
 rintro e w1 ⟨R,hW,rfl,hS1,ho1'⟩
 have HW:=zak hW
 have hgl:=zxl (zxk HP.out.good on) (zxj HL.out.sort HP.out.vals on)
 have hnx:=zz4 HL.out.right HP.out.len HP.out.run hgl (.inl rfl) hW
 have HNX:Hid (RunK R.1 R.2.1∧R.2.1.ops≤S.ops+1000∧R.2.1.b.length=1024 * R.2.1.wear.length∧3≤R.2.1.wear.length):= zak ⟨hnx.1,hnx.2.1,hnx.2.2.1,by have:=HP.out.three;rw[z0o HL.out.right HP.out.len hgl hW];exact this⟩
 have HGN:Hid (GoodX L (if R.2.2=0 then joinV (dropL X on) (ofV L V on) else X)):= zak (by split;exact hgl;exact HP.out.good)
 clear hW hgl hnx
 have ho1:=zub ho1'
 have HS1:=zak hS1
 have HO1:=zak ho1
 have HR1:=zak (HR8.out.free (z0e ho1))
 have HQ1:Hid (Blk w1 w.heap.size 48 #[.int .i64 1,.int .i64 ix,.int .i64 sb,.int .i64 on,.int .u32 (ow:Nat),.slice Aj ob.length cj]):= zak ((ho1.block _ HQ8.out.lt (fun hx=>hx.2 (.inr (.inr rfl)))).trans HQ8.out)
 have hz1:=ho1.size
 clear hS1 ho1 ho1'
 dsimp only
 refine hK.out _ _ ?hS54 (fun hHeld=>?rest54)
 case hS54=>((try dsimp only);(exact⟨HR1.out.blk.cell 0 rfl,HR1.out.blk.cell 1 rfl,HR1.out.blk.cell 4 rfl,HR1.out.blk.cell 5 rfl,HQ1.out.cell 3 rfl⟩))
 case' rest54=>(clear hK K;try simp only[PqL,Act.put])
 refine wpAnyH_ready (rs:= [21]) (by kernel_rfl) (by simp) ?_
 refine AllReadyH.cons (o:=_) rfl (fun K hK=>?_) .nil
 go_simp
 refine (zz5 HL.out.sort HL.out.right HP.out.vals HL.out.few w1 HR1.out (by have:=HSZ.out;omega) (by have:=HSZ.out;omega) hn1 HP.out.good h1 HP.out.run HOP.out HW.out).mono ?_
 rintro e w2 ⟨rfl,hR2,ho2⟩
 have HR2:=zak hR2
 have HO2:=zak ho2
 have HQ2:Hid (Blk w2 w.heap.size 48 #[.int .i64 1,.int .i64 ix,.int .i64 sb,.int .i64 on,.int .u32 (ow:Nat),.slice Aj ob.length cj]):= zak ((ho2.block _ HQ1.out.lt (fun hx=>by have:=(HFL.out _ hx.1).2.1;omega)).trans HQ1.out)
 clear hR2 ho2
 dsimp only
 refine hK.out _ _ ?hS57 (fun hHeld=>?rest57)
 case hS57=>((try dsimp only);(exact⟨HR2.out.blk.cell 0 rfl,HR2.out.blk.cell 1 rfl,HR2.out.blk.cell 4 rfl,HR2.out.blk.cell 5 rfl,HQ2.out.cell 3 rfl⟩))
 case' rest57=>(clear hK K;try simp only[PqL,Act.put])
 refine tkH 22 ?_
 try simp only[PqL,Act.put]
 refine tkH 23 ?_
 try simp only[PqL,Act.put]
 refine wpAnyH_done (by kernel_rfl) ?_ _
 have hEnd:=hHeld.2
 repeat (clear hHeld)
 clear hEnd
 go_wp2_with fail
 go_ret
 refine (⟨rfl,z0i HB8.out HSZ.out.1 HO1.out HO2.out (fun g hg=>(HFL.out g hg.1).1),.inl ⟨V,R.2.1,_,R.1,_,_,pv,prv,_,⟨HP.out.vals,HGN.out,HNX.out.1,by have:=HNX.out.2.1;have:=HP.out.ops;omega,HNX.out.2.2.1,HNX.out.2.2.2⟩,z0f HS1.out HO2.out,HR2.out⟩⟩:DoRes M lo pw pd pt qf qr n L N w _ _)
theorem z0r (ix sb on:Int) (ow:Nat) (Aj:Option Addr) (cj:Nat) (ob:List UInt8) (w:World) (hL:PlL L) (hP:PlP9 L V S X J N) (hS:zzl (.pointer (some ⟨pv,0,none⟩)) (.pointer (some ⟨prv,0,none⟩)) (KR pw FR) M lo w pw pd pv qf n L V J S X odd off) (hR:zzz w FR lo pw pd pt pv prv qf qr n L V S X odd off) (a:Nat→Addr) (hG:GV w a M) (hN:N+3000 < 4611686018427387904) (h1:1≤on∧on≤4) :
 Calls Tryz.prog 32 #[.pointer (some ⟨pw,0,none⟩),.agg #[.int .i64 2,.int .i64 ix,.int .i64 sb,.int .i64 on,.int .u32 (ow:Nat),.slice Aj ob.length cj]] w (DoRes M lo pw pd pt qf qr n L N w):= by
 have q8:=zbm w 48 #[.int .i64 2,.int .i64 ix,.int .i64 sb,.int .i64 on,.int .u32 (ow:Nat),.slice Aj ob.length cj]
 have hb8:=zbf (Below.refl w.heap.size w) (.cells #[.int .i64 2,.int .i64 ix,.int .i64 sb,.int .i64 on,.int .u32 (ow:Nat),.slice Aj ob.length cj] 48)
 have HS8:=zak (z0d (.cells #[.int .i64 2,.int .i64 ix,.int .i64 sb,.int .i64 on,.int .u32 (ow:Nat),.slice Aj ob.length cj] 48) hS)
 have HR8:=zak (hR.below hb8)
 have HP:=zak hP
 have HL:=zak hL
 have HB8:=zak hb8
 have HQ8:=zak q8
 obtain⟨hlp,hpw⟩:= z0g hS
 have HSZ:=zak (show lo≤w.heap.size∧pw < w.heap.size∧pw < (w.alloc (.cells #[.int .i64 2,.int .i64 ix,.int .i64 sb,.int .i64 on,.int .u32 (ow:Nat),.slice Aj ob.length cj] 48)).heap.size∧lo≤(w.alloc (.cells #[.int .i64 2,.int .i64 ix,.int .i64 sb,.int .i64 on,.int .u32 (ow:Nat),.slice Aj ob.length cj] 48)).heap.size from ⟨by omega,hpw,by simp;omega,by simp;omega⟩)
 have HFL:=zak hR.frlt
 have hn1:n≤1000:=by rw[hS.hn];have:=hL.few;omega
 have hn2:n≤200:=by rw[hS.hn];exact hL.few
 have hBw:=HR8.out.blk
 have c0:=hBw.cell 0 (u:= .pointer (some ⟨pd,0,none⟩)) rfl
 have c1:=hBw.cell 1 (u:= .pointer (some ⟨pt,0,none⟩)) rfl
 have c2:=hBw.cell 2 (u:= .pointer (some ⟨qf.p,0,none⟩)) rfl
 have c3:=hBw.cell 3 (u:= .pointer (some ⟨qr.p,0,none⟩)) rfl
 have c4:=hBw.cell 4 (u:= .pointer (some ⟨pv,0,none⟩)) rfl
 have c5:=hBw.cell 5 (u:= .pointer (some ⟨prv,0,none⟩)) rfl
 have o1:=q8.cell 1 (u:= .int .i64 ix) rfl
 have o2:=q8.cell 2 (u:= .int .i64 sb) rfl
 have o3:=q8.cell 3 (u:= .int .i64 on) rfl
 have o4:=q8.cell 4 (u:= .int .u32 (ow:Nat)) rfl
 have o5:=q8.cell 5 (u:= .slice Aj ob.length cj) rfl
 have HG:=zak hG
 have HOP:=zak (show S.ops+2000 < 4611686018427387904 by have:=hP.ops;omega)
 clear hG
 clear q8 hb8 hL hP hS hR hBw
 go_enter Tryz.func32,Tryz.ntmps32
 go_wp2_with fail
 refine wp_region_held_drew (S:=(fun w'=>w'.cell? ⟨pw,4,none⟩=some (.pointer (some ⟨pv,0,none⟩))∧ w'.cell? ⟨pw,5,none⟩=some (.pointer (some ⟨prv,0,none⟩))∧ w'.cell? ⟨w.heap.size,3,none⟩=some (.int .i64 on))) (by kernel_rfl) ?hS61 (fun hHeld=>?rest61)
 case hS61=>((try dsimp only);(exact⟨c4,c5,o3⟩))
 case' rest61=>skip
 iterate 6 (refine tkN ?_;try simp only[PqL,Act.put])
 refine tkH 7 ?_
 try simp only[PqL,Act.put]
 refine tkH 8 ?_
 try simp only[PqL,Act.put]
 refine tkH 9 ?_
 try simp only[PqL,Act.put]
 refine tkH 10 ?_
 try simp only[PqL,Act.put]
 refine tkH 11 ?_
 try simp only[PqL,Act.put]
 refine tkH 12 ?_
 try simp only[PqL,Act.put]
 refine wpAnyH_ready (rs:= [6]) (by kernel_rfl) (by simp) ?_
 refine AllReadyH.cons (o:=_) rfl (fun K hK=>?_) .nil
 go_simp
 refine (zzr a on _ (HS8.out.below (Below.drew (Below.refl _ _))) ((HG.out.below HB8.out).below (Below.drew (Below.refl _ _))) (HP.out.run.elim (fun h=> .inl (by rw[h];simp)) .inr) HOP.out h1).mono ?_
 rintro e w1 ⟨R,hW,rfl,hS1,ho1'⟩
 have HW:=zak hW
 have hgl:=zxk HP.out.good on
 have hkd:(if (dropL X on).length=0 then (2:Int) else 1)=1∨((if (dropL X on).length=0 then (2:Int) else 1)=2∧dropL X on= []):= by
  by_cases h0:(dropL X on).length=0
  · exact .inr ⟨by rw[if_pos h0],List.eq_nil_of_length_eq_zero h0⟩
  · exact .inl (by rw[if_neg h0])
 have hnx:=zz4 HL.out.right HP.out.len HP.out.run hgl hkd hW
 have HNX:Hid (RunK R.1 R.2.1∧R.2.1.ops≤S.ops+1000∧R.2.1.b.length=1024 * R.2.1.wear.length∧3≤R.2.1.wear.length):= zak ⟨hnx.1,hnx.2.1,hnx.2.2.1,by have:=HP.out.three;rw[z0o HL.out.right HP.out.len hgl hW];exact this⟩
 have HGN:Hid (GoodX L (if R.2.2=0 then dropL X on else X)):= zak (by split;exact hgl;exact HP.out.good)
 clear hW hgl hnx hkd
 have ho1:=zub ho1'
 have HS1:=zak hS1
 have HO1:=zak ho1
 have HR1:=zak (HR8.out.free (z0e ho1))
 have HQ1:Hid (Blk w1 w.heap.size 48 #[.int .i64 2,.int .i64 ix,.int .i64 sb,.int .i64 on,.int .u32 (ow:Nat),.slice Aj ob.length cj]):= zak ((ho1.block _ HQ8.out.lt (fun hx=>hx.2 (.inr (.inr rfl)))).trans HQ8.out)
 have hz1:=ho1.size
 clear hS1 ho1 ho1'
 dsimp only
 refine hK.out _ _ ?hS76 (fun hHeld=>?rest76)
 case hS76=>((try dsimp only);(exact⟨HR1.out.blk.cell 4 rfl,HR1.out.blk.cell 5 rfl,HQ1.out.cell 3 rfl⟩))
 case' rest76=>(clear hK K;try simp only[PqL,Act.put])
 refine wpAnyH_ready (rs:= [13]) (by kernel_rfl) (by simp) ?_
 refine AllReadyH.cons (o:=_) rfl (fun K hK=>?_) .nil
 go_simp
 refine (zz6 HL.out.sort HL.out.right HL.out.few w1 HR1.out (by have:=HSZ.out;omega) (by have:=HSZ.out;omega) HP.out.good h1 HP.out.run HOP.out HW.out).mono ?_
 rintro e w2 ⟨rfl,hR2,ho2⟩
 have HR2:=zak hR2
 have HO2:=zak ho2
 have HQ2:Hid (Blk w2 w.heap.size 48 #[.int .i64 2,.int .i64 ix,.int .i64 sb,.int .i64 on,.int .u32 (ow:Nat),.slice Aj ob.length cj]):= zak ((ho2.block _ HQ1.out.lt (fun hx=>by have:=(HFL.out _ hx.1).2.1;omega)).trans HQ1.out)
 clear hR2 ho2
 dsimp only
 refine hK.out _ _ ?hS79 (fun hHeld=>?rest79)
 case hS79=>((try dsimp only);(exact⟨HR2.out.blk.cell 4 rfl,HR2.out.blk.cell 5 rfl,HQ2.out.cell 3 rfl⟩))
 case' rest79=>(clear hK K;try simp only[PqL,Act.put])
 refine tkH 14 ?_
 try simp only[PqL,Act.put]
 refine tkH 15 ?_
 try simp only[PqL,Act.put]
 refine wpAnyH_done (by kernel_rfl) ?_ _
 have hEnd:=hHeld.2
 repeat (clear hHeld)
 clear hEnd
 go_wp2_with fail
 go_ret
 refine (⟨rfl,z0i HB8.out HSZ.out.1 HO1.out HO2.out (fun g hg=>(HFL.out g hg.1).1),.inl ⟨V,R.2.1,_,R.1,_,_,pv,prv,_,⟨HP.out.vals,HGN.out,HNX.out.1,by have:=HNX.out.2.1;have:=HP.out.ops;omega,HNX.out.2.2.1,HNX.out.2.2.2⟩,z0f HS1.out HO2.out,HR2.out⟩⟩:DoRes M lo pw pd pt qf qr n L N w _ _)
theorem z0s (ix sb on:Int) (ow:Nat) (Aj:Option Addr) (cj:Nat) (ob:List UInt8) (w:World) (hL:PlL L) (hP:PlP9 L V S X J N) (hS:zzl (.pointer (some ⟨pv,0,none⟩)) (.pointer (some ⟨prv,0,none⟩)) (KR pw FR) M lo w pw pd pv qf n L V J S X odd off) (hR:zzz w FR lo pw pd pt pv prv qf qr n L V S X odd off) (h1: ¬ (1≤on∧on≤4)) :
 Calls Tryz.prog 32 #[.pointer (some ⟨pw,0,none⟩),.agg #[.int .i64 1,.int .i64 ix,.int .i64 sb,.int .i64 on,.int .u32 (ow:Nat),.slice Aj ob.length cj]] w (DoRes M lo pw pd pt qf qr n L N w):= by
 have q8:=zbm w 48 #[.int .i64 1,.int .i64 ix,.int .i64 sb,.int .i64 on,.int .u32 (ow:Nat),.slice Aj ob.length cj]
 have hb8:=zbf (Below.refl w.heap.size w) (.cells #[.int .i64 1,.int .i64 ix,.int .i64 sb,.int .i64 on,.int .u32 (ow:Nat),.slice Aj ob.length cj] 48)
 have HS8:=zak (z0d (.cells #[.int .i64 1,.int .i64 ix,.int .i64 sb,.int .i64 on,.int .u32 (ow:Nat),.slice Aj ob.length cj] 48) hS)
 have HR8:=zak (hR.below hb8)
 have HP:=zak hP
 have HL:=zak hL
 have HB8:=zak hb8
 have HQ8:=zak q8
 obtain⟨hlp,hpw⟩:= z0g hS
 have HSZ:=zak (show lo≤w.heap.size∧pw < w.heap.size∧pw < (w.alloc (.cells #[.int .i64 1,.int .i64 ix,.int .i64 sb,.int .i64 on,.int .u32 (ow:Nat),.slice Aj ob.length cj] 48)).heap.size∧lo≤(w.alloc (.cells #[.int .i64 1,.int .i64 ix,.int .i64 sb,.int .i64 on,.int .u32 (ow:Nat),.slice Aj ob.length cj] 48)).heap.size from ⟨by omega,hpw,by simp;omega,by simp;omega⟩)
 have HFL:=zak hR.frlt
 have hn1:n≤1000:=by rw[hS.hn];have:=hL.few;omega
 have hn2:n≤200:=by rw[hS.hn];exact hL.few
 have hBw:=HR8.out.blk
 have c0:=hBw.cell 0 (u:= .pointer (some ⟨pd,0,none⟩)) rfl
 have c1:=hBw.cell 1 (u:= .pointer (some ⟨pt,0,none⟩)) rfl
 have c2:=hBw.cell 2 (u:= .pointer (some ⟨qf.p,0,none⟩)) rfl
 have c3:=hBw.cell 3 (u:= .pointer (some ⟨qr.p,0,none⟩)) rfl
 have c4:=hBw.cell 4 (u:= .pointer (some ⟨pv,0,none⟩)) rfl
 have c5:=hBw.cell 5 (u:= .pointer (some ⟨prv,0,none⟩)) rfl
 have o1:=q8.cell 1 (u:= .int .i64 ix) rfl
 have o2:=q8.cell 2 (u:= .int .i64 sb) rfl
 have o3:=q8.cell 3 (u:= .int .i64 on) rfl
 have o4:=q8.cell 4 (u:= .int .u32 (ow:Nat)) rfl
 have o5:=q8.cell 5 (u:= .slice Aj ob.length cj) rfl
 have HSa:=zak (z0j (hS.below hb8))
 have HRa:=zak (z0k HR8.out)
 clear q8 hb8 hL hP hS hR hBw
 go_enter Tryz.func32,Tryz.ntmps32
 go_wp2_with fail
 refine wp_region_held_drew (S:=(fun w'=>w'.cell? ⟨pw,0,none⟩=some (.pointer (some ⟨pd,0,none⟩))∧ w'.cell? ⟨pw,1,none⟩=some (.pointer (some ⟨pt,0,none⟩))∧ w'.cell? ⟨pw,4,none⟩=some (.pointer (some ⟨pv,0,none⟩))∧ w'.cell? ⟨pw,5,none⟩=some (.pointer (some ⟨prv,0,none⟩))∧ w'.cell? ⟨w.heap.size,3,none⟩=some (.int .i64 on))) (by kernel_rfl) ?hS83 (fun hHeld=>?rest83)
 case hS83=>((try dsimp only);(exact⟨c0,c1,c4,c5,o3⟩))
 case' rest83=>skip
 iterate 10 (refine tkN ?_;try simp only[PqL,Act.put])
 refine tkH 11 ?_
 try simp only[PqL,Act.put]
 refine tkH 12 ?_
 try simp only[PqL,Act.put]
 refine tkH 13 ?_
 try simp only[PqL,Act.put]
 refine tkH 14 ?_
 try simp only[PqL,Act.put]
 refine tkH 15 ?_
 try simp only[PqL,Act.put]
 refine tkH 16 ?_
 try simp only[PqL,Act.put]
 refine tkH 17 ?_
 try simp only[PqL,Act.put]
 refine tkH 18 ?_
 try simp only[PqL,Act.put]
 refine tkH 19 ?_
 try simp only[PqL,Act.put]
 refine tkH 20 ?_
 try simp only[PqL,Act.put]
 refine wpAnyH_ready (rs:= [10]) (by kernel_rfl) (by simp) ?_
 refine AllReadyH.cons (o:=_) rfl (fun K hK=>?_) .nil
 go_simp
 refine (zzy on (some ⟨pd,0,none⟩) _ (HS8.out.below (Below.drew (Below.refl _ _))) h1).mono ?_
 rintro e w1 ⟨rfl,rfl⟩
 dsimp only
 refine hK.out _ _ ?hS106 (fun hHeld=>?rest106)
 case hS106=>((try dsimp only);(exact⟨c0,c1,c4,c5,o3⟩))
 case' rest106=>(clear hK K;try simp only[PqL,Act.put])
 refine wpAnyH_ready (rs:= [21]) (by kernel_rfl) (by simp) ?_
 refine AllReadyH.cons (o:=_) rfl (fun K hK=>?_) .nil
 go_simp
 refine (zyt on (.pointer (some ⟨pt,0,none⟩)) _ h1).mono ?_
 rintro e w2 ⟨rfl,rfl⟩
 dsimp only
 refine hK.out _ _ ?hS109 (fun hHeld=>?rest109)
 case hS109=>((try dsimp only);(exact⟨c0,c1,c4,c5,o3⟩))
 case' rest109=>(clear hK K;try simp only[PqL,Act.put])
 refine tkH 22 ?_
 try simp only[PqL,Act.put]
 refine tkH 23 ?_
 try simp only[PqL,Act.put]
 refine wpAnyH_done (by kernel_rfl) ?_ _
 have hEnd:=hHeld.2
 repeat (clear hHeld)
 clear hEnd
 go_wp2_with fail
 go_ret
 refine (⟨rfl,(Below.drew HB8.out).mono HSZ.out.1,.inl ⟨V,S,X,J,odd,off,pv,prv,FR,⟨HP.out.vals,HP.out.good,HP.out.run,by have:=HP.out.ops;omega,HP.out.len,HP.out.three⟩,HSa.out,HRa.out⟩⟩:DoRes M lo pw pd pt qf qr n L N w _ _)
theorem z0t (ix sb on:Int) (ow:Nat) (Aj:Option Addr) (cj:Nat) (ob:List UInt8) (w:World) (hL:PlL L) (hP:PlP9 L V S X J N) (hS:zzl (.pointer (some ⟨pv,0,none⟩)) (.pointer (some ⟨prv,0,none⟩)) (KR pw FR) M lo w pw pd pv qf n L V J S X odd off) (hR:zzz w FR lo pw pd pt pv prv qf qr n L V S X odd off) (h1: ¬ (1≤on∧on≤4)) :
 Calls Tryz.prog 32 #[.pointer (some ⟨pw,0,none⟩),.agg #[.int .i64 2,.int .i64 ix,.int .i64 sb,.int .i64 on,.int .u32 (ow:Nat),.slice Aj ob.length cj]] w (DoRes M lo pw pd pt qf qr n L N w):= by
 have q8:=zbm w 48 #[.int .i64 2,.int .i64 ix,.int .i64 sb,.int .i64 on,.int .u32 (ow:Nat),.slice Aj ob.length cj]
 have hb8:=zbf (Below.refl w.heap.size w) (.cells #[.int .i64 2,.int .i64 ix,.int .i64 sb,.int .i64 on,.int .u32 (ow:Nat),.slice Aj ob.length cj] 48)
 have HS8:=zak (z0d (.cells #[.int .i64 2,.int .i64 ix,.int .i64 sb,.int .i64 on,.int .u32 (ow:Nat),.slice Aj ob.length cj] 48) hS)
 have HR8:=zak (hR.below hb8)
 have HP:=zak hP
 have HL:=zak hL
 have HB8:=zak hb8
 have HQ8:=zak q8
 obtain⟨hlp,hpw⟩:= z0g hS
 have HSZ:=zak (show lo≤w.heap.size∧pw < w.heap.size∧pw < (w.alloc (.cells #[.int .i64 2,.int .i64 ix,.int .i64 sb,.int .i64 on,.int .u32 (ow:Nat),.slice Aj ob.length cj] 48)).heap.size∧lo≤(w.alloc (.cells #[.int .i64 2,.int .i64 ix,.int .i64 sb,.int .i64 on,.int .u32 (ow:Nat),.slice Aj ob.length cj] 48)).heap.size from ⟨by omega,hpw,by simp;omega,by simp;omega⟩)
 have HFL:=zak hR.frlt
 have hn1:n≤1000:=by rw[hS.hn];have:=hL.few;omega
 have hn2:n≤200:=by rw[hS.hn];exact hL.few
 have hBw:=HR8.out.blk
 have c0:=hBw.cell 0 (u:= .pointer (some ⟨pd,0,none⟩)) rfl
 have c1:=hBw.cell 1 (u:= .pointer (some ⟨pt,0,none⟩)) rfl
 have c2:=hBw.cell 2 (u:= .pointer (some ⟨qf.p,0,none⟩)) rfl
 have c3:=hBw.cell 3 (u:= .pointer (some ⟨qr.p,0,none⟩)) rfl
 have c4:=hBw.cell 4 (u:= .pointer (some ⟨pv,0,none⟩)) rfl
 have c5:=hBw.cell 5 (u:= .pointer (some ⟨prv,0,none⟩)) rfl
 have o1:=q8.cell 1 (u:= .int .i64 ix) rfl
 have o2:=q8.cell 2 (u:= .int .i64 sb) rfl
 have o3:=q8.cell 3 (u:= .int .i64 on) rfl
 have o4:=q8.cell 4 (u:= .int .u32 (ow:Nat)) rfl
 have o5:=q8.cell 5 (u:= .slice Aj ob.length cj) rfl
 have HSa:=zak (z0j (hS.below hb8))
 have HRa:=zak (z0k HR8.out)
 clear q8 hb8 hL hP hS hR hBw
 go_enter Tryz.func32,Tryz.ntmps32
 go_wp2_with fail
 refine wp_region_held_drew (S:=(fun w'=>w'.cell? ⟨pw,4,none⟩=some (.pointer (some ⟨pv,0,none⟩))∧ w'.cell? ⟨pw,5,none⟩=some (.pointer (some ⟨prv,0,none⟩))∧ w'.cell? ⟨w.heap.size,3,none⟩=some (.int .i64 on))) (by kernel_rfl) ?hS113 (fun hHeld=>?rest113)
 case hS113=>((try dsimp only);(exact⟨c4,c5,o3⟩))
 case' rest113=>skip
 iterate 6 (refine tkN ?_;try simp only[PqL,Act.put])
 refine tkH 7 ?_
 try simp only[PqL,Act.put]
 refine tkH 8 ?_
 try simp only[PqL,Act.put]
 refine tkH 9 ?_
 try simp only[PqL,Act.put]
 refine tkH 10 ?_
 try simp only[PqL,Act.put]
 refine tkH 11 ?_
 try simp only[PqL,Act.put]
 refine tkH 12 ?_
 try simp only[PqL,Act.put]
 refine wpAnyH_ready (rs:= [6]) (by kernel_rfl) (by simp) ?_
 refine AllReadyH.cons (o:=_) rfl (fun K hK=>?_) .nil
 go_simp
 refine (z0l on _ (HS8.out.below (Below.drew (Below.refl _ _))) h1).mono ?_
 rintro e w1 ⟨rfl,rfl⟩
 dsimp only
 refine hK.out _ _ ?hS128 (fun hHeld=>?rest128)
 case hS128=>((try dsimp only);(exact⟨c4,c5,o3⟩))
 case' rest128=>(clear hK K;try simp only[PqL,Act.put])
 refine wpAnyH_ready (rs:= [13]) (by kernel_rfl) (by simp) ?_
 refine AllReadyH.cons (o:=_) rfl (fun K hK=>?_) .nil
 go_simp
 refine (zyu on _ h1).mono ?_
 rintro e w2 ⟨rfl,rfl⟩
 dsimp only
 refine hK.out _ _ ?hS131 (fun hHeld=>?rest131)
 case hS131=>((try dsimp only);(exact⟨c4,c5,o3⟩))
 case' rest131=>(clear hK K;try simp only[PqL,Act.put])
 refine tkH 14 ?_
 try simp only[PqL,Act.put]
 refine tkH 15 ?_
 try simp only[PqL,Act.put]
 refine wpAnyH_done (by kernel_rfl) ?_ _
 have hEnd:=hHeld.2
 repeat (clear hHeld)
 clear hEnd
 go_wp2_with fail
 go_ret
 refine (⟨rfl,(Below.drew HB8.out).mono HSZ.out.1,.inl ⟨V,S,X,J,odd,off,pv,prv,FR,⟨HP.out.vals,HP.out.good,HP.out.run,by have:=HP.out.ops;omega,HP.out.len,HP.out.three⟩,HSa.out,HRa.out⟩⟩:DoRes M lo pw pd pt qf qr n L N w _ _)
end
end
end Go.Proofs.YtehabbnohoomjaaGreatDoor
