/- None -/
import Derived.Test.YtehabbnohoomjaaGreatDoorP47
namespace Go.Proofs.YtehabbnohoomjaaGreatDoor
set_option linter.unusedVariables false
set_option linter.unusedSimpArgs false
set_option linter.unnecessarySimpa false
section
open Go.RowKit
set_option maxRecDepth 100000
set_option maxHeartbeats 8000000
section
variable {M lo pw pd pt pv prv n N:Nat} {qf qr:FP} {L:List Ent} {V:List (List UInt8)} {J:JS} {S:FS} {X:List SV} {odd off:Bool} {FR:Nat→Prop}
theorem z0u (w:World) (h:zzz w FR lo pw pd pt pv prv qf qr n L V S X odd off) (hn:n≤1000):Calls Tryz.prog 73 #[.pointer (some ⟨pt,0,none⟩)] w (ValuesR (svL L V) w):= by
 obtain⟨rj,A,c,FX,As,ns,cs,dx,Al,clt,Avt,cvt,dt,et,Ft,h⟩:= h
 exact ztv w h.dr hn
theorem zzz.grow {w w1 w2:World} (h:zzz w2 FR lo pw pd pt pv prv qf qr n L V S X odd off) (hf:∀ g,FR g→lo≤g∧g < w.heap.size∧g≠pw) (hlo:lo≤w1.heap.size) (_:w.heap.size≤w1.heap.size+1) (h2:w1.heap.size≤w2.heap.size) (hpw:pw < w1.heap.size):zzz w2 (FN FR w1 w2) lo pw pd pt pv prv qf qr n L V S X odd off:=by
 obtain⟨rj,A,c,FX,As,ns,cs,dx,Al,clt,Avt,cvt,dt,et,Ft,h⟩:= h
 refine⟨rj,A,c,FX,As,ns,cs,dx,Al,clt,Avt,cvt,dt,et,Ft,h.blk,h.dr,h.rv,fun g hg=>⟨.inl (h.inT g hg).1,(h.inT g hg).2⟩,fun g hg=> .inl (h.inR g hg),?_⟩
 rintro g (hg | hg)
 · exact h.fr g hg
 · exact⟨by omega,hg.2,by omega⟩
theorem z0v (ix sb on:Int) (ow:Nat) (Aj:Option Addr) (cj:Nat) (ob:List UInt8) (w:World) (hL:PlL L) (hP:PlP9 L V S X J N) (hS:zzl (.pointer (some ⟨pv,0,none⟩)) (.pointer (some ⟨prv,0,none⟩)) (KR pw FR) M lo w pw pd pv qf n L V J S X odd off) (hR:zzz w FR lo pw pd pt pv prv qf qr n L V S X odd off) :
 Calls Tryz.prog 32 #[.pointer (some ⟨pw,0,none⟩),.agg #[.int .i64 3,.int .i64 ix,.int .i64 sb,.int .i64 on,.int .u32 (ow:Nat),.slice Aj ob.length cj]] w (DoRes M lo pw pd pt qf qr n L N w):= by
 have q8:=zbm w 48 #[.int .i64 3,.int .i64 ix,.int .i64 sb,.int .i64 on,.int .u32 (ow:Nat),.slice Aj ob.length cj]
 have hb8:=zbf (Below.refl w.heap.size w) (.cells #[.int .i64 3,.int .i64 ix,.int .i64 sb,.int .i64 on,.int .u32 (ow:Nat),.slice Aj ob.length cj] 48)
 have HS8:=zak (z0d (.cells #[.int .i64 3,.int .i64 ix,.int .i64 sb,.int .i64 on,.int .u32 (ow:Nat),.slice Aj ob.length cj] 48) hS)
 have HR8:=zak (hR.below hb8)
 have HP:=zak hP
 have HL:=zak hL
 have HB8:=zak hb8
 have HQ8:=zak q8
 obtain⟨hlp,hpw⟩:= z0g hS
 have HSZ:=zak (show lo≤w.heap.size∧pw < w.heap.size∧pw < (w.alloc (.cells #[.int .i64 3,.int .i64 ix,.int .i64 sb,.int .i64 on,.int .u32 (ow:Nat),.slice Aj ob.length cj] 48)).heap.size∧lo≤(w.alloc (.cells #[.int .i64 3,.int .i64 ix,.int .i64 sb,.int .i64 on,.int .u32 (ow:Nat),.slice Aj ob.length cj] 48)).heap.size from ⟨by omega,hpw,by simp;omega,by simp;omega⟩)
 have HFL:=zak hR.frlt
 have hn1:n≤1000:=by rw[hS.hn];have:=hL.few;omega
 have hn2:n≤200:=by rw[hS.hn];exact hL.few
 have hBw:=HR8.out.blk
 have c0:=hBw.cell 0 (u:= .pointer (some ⟨pd,0,none⟩)) rfl
 have c1:=hBw.cell 1 (u:= .pointer (some ⟨pt,0,none⟩)) rfl
 have c2:=hBw.cell 2 (u:= .pointer (some ⟨qf.p,0,none⟩)) rfl
 have c3:=hBw.cell 3 (u:= .pointer (some ⟨qr.p,0,none⟩)) rfl
 have c4:=hBw.cell 4 (u:= .pointer (some ⟨pv,0,none⟩)) rfl
 have c5:=hBw.cell 5 (u:= .pointer (some ⟨prv,0,none⟩)) rfl
 have o1:=q8.cell 1 (u:= .int .i64 ix) rfl
 have o2:=q8.cell 2 (u:= .int .i64 sb) rfl
 have o3:=q8.cell 3 (u:= .int .i64 on) rfl
 have o4:=q8.cell 4 (u:= .int .u32 (ow:Nat)) rfl
 have o5:=q8.cell 5 (u:= .slice Aj ob.length cj) rfl
 have hx2:X.length≤1000:=by
  have:=zxs hL.sort hP.good.1 (fun v hv=>by
   obtain⟨j,E,h1,_,_,h5,h6⟩:= hP.good.2 v hv
   exact⟨j,E,h1,h5,h6⟩)
  have:=hL.few
  omega
 clear q8 hb8 hL hP hS hR hBw
 go_enter Tryz.func32,Tryz.ntmps32
 go_wp2_with fail
 refine wp_region_held_drew (S:=(fun w'=>w'.cell? ⟨pw,0,none⟩=some (.pointer (some ⟨pd,0,none⟩))∧ w'.cell? ⟨pw,1,none⟩=some (.pointer (some ⟨pt,0,none⟩))∧ w'.cell? ⟨pw,4,none⟩=some (.pointer (some ⟨pv,0,none⟩))∧ w'.cell? ⟨pw,5,none⟩=some (.pointer (some ⟨prv,0,none⟩)))) (by kernel_rfl) ?hS1 (fun hHeld=>?rest1)
 case hS1=>((try dsimp only);(exact⟨c0,c1,c4,c5⟩))
 case' rest1=>skip
 iterate 8 (refine tkN ?_;try simp only[PqL,Act.put])
 refine tkH 9 ?_
 try simp only[PqL,Act.put]
 refine tkH 10 ?_
 try simp only[PqL,Act.put]
 refine tkH 11 ?_
 try simp only[PqL,Act.put]
 refine tkH 12 ?_
 try simp only[PqL,Act.put]
 refine tkH 13 ?_
 try simp only[PqL,Act.put]
 refine tkH 14 ?_
 try simp only[PqL,Act.put]
 refine tkH 15 ?_
 try simp only[PqL,Act.put]
 refine tkH 16 ?_
 try simp only[PqL,Act.put]
 refine wpAnyH_ready (rs:= [8]) (by kernel_rfl) (by simp) ?_
 refine AllReadyH.cons (o:=_) rfl (fun K hK=>?_) .nil
 go_simp
 refine (zzu _ (HS8.out.below (Below.drew (Below.refl _ _))) HL.out.sort hn1).mono ?_
 rintro e w1 ⟨rfl,hS1,ho1'⟩
 have ho1:=zub ho1'
 have HS1:=zak hS1
 have HO1:=zak ho1
 have HR1:=zak (HR8.out.free (z0e ho1))
 have HQ1:Hid (Blk w1 w.heap.size 48 #[.int .i64 3,.int .i64 ix,.int .i64 sb,.int .i64 on,.int .u32 (ow:Nat),.slice Aj ob.length cj]):= zak ((ho1.block _ HQ8.out.lt (fun hx=>hx.2 (.inr (.inr rfl)))).trans HQ8.out)
 have hz1:=ho1.size
 clear hS1 ho1 ho1'
 dsimp only
 refine hK.out _ _ ?hS20 (fun hHeld=>?rest20)
 case hS20=>((try dsimp only);(exact⟨HR1.out.blk.cell 0 rfl,HR1.out.blk.cell 1 rfl,HR1.out.blk.cell 4 rfl,HR1.out.blk.cell 5 rfl⟩))
 case' rest20=>(clear hK K;try simp only[PqL,Act.put])
 refine wpAnyH_ready (rs:= [17]) (by kernel_rfl) (by simp) ?_
 refine AllReadyH.cons (o:=_) rfl (fun K hK=>?_) .nil
 go_simp
 refine (zz2 w1 HR1.out (by have:=HSZ.out;omega) (by have:=HSZ.out;omega) hn1 hx2 (zxw HP.out.good)).mono ?_
 rintro e w2 ⟨rfl,hR2,ho2⟩
 have HR2:=zak hR2
 have HO2:=zak ho2
 have HQ2:Hid (Blk w2 w.heap.size 48 #[.int .i64 3,.int .i64 ix,.int .i64 sb,.int .i64 on,.int .u32 (ow:Nat),.slice Aj ob.length cj]):= zak ((ho2.block _ HQ1.out.lt (fun hx=>by have:=(HFL.out _ hx.1).2.1;omega)).trans HQ1.out)
 clear hR2 ho2
 have HS2:=zak (z0f HS1.out HO2.out)
 have HBL:=zak (z0i HB8.out HSZ.out.1 HO1.out HO2.out (fun g hg=>(HFL.out g hg.1).1))
 dsimp only
 refine hK.out _ _ ?hS23 (fun hHeld=>?rest23)
 case hS23=>((try dsimp only);(exact⟨HR2.out.blk.cell 0 rfl,HR2.out.blk.cell 1 rfl,HR2.out.blk.cell 4 rfl,HR2.out.blk.cell 5 rfl⟩))
 case' rest23=>(clear hK K;try simp only[PqL,Act.put])
 refine tkH 18 ?_
 try simp only[PqL,Act.put]
 refine tkH 19 ?_
 try simp only[PqL,Act.put]
 refine tkH 20 ?_
 try simp only[PqL,Act.put]
 refine tkH 21 ?_
 try simp only[PqL,Act.put]
 refine tkH 22 ?_
 try simp only[PqL,Act.put]
 refine tkH 23 ?_
 try simp only[PqL,Act.put]
 refine tkH 25 ?_
 try simp only[PqL,Act.put]
 refine tkH 26 ?_
 try simp only[PqL,Act.put]
 refine tkH 27 ?_
 try simp only[PqL,Act.put]
 refine tkH 28 ?_
 try simp only[PqL,Act.put]
 refine wpAnyH_ready (rs:= [24]) (by kernel_rfl) (by simp) ?_
 refine AllReadyH.cons (o:=_) rfl (fun K hK=>?_) .nil
 go_simp
 refine (zzo _ HS2.out hn1).mono ?_
 rintro e w3 ⟨A3,n3,c3',ds3,rfl,hO3,_,hb3⟩
 have HO3:=zak hO3
 have HB3:=zak hb3
 have HR3:=zak (HR2.out.below hb3)
 have HQ3:Hid (Blk w3 w.heap.size 48 #[.int .i64 3,.int .i64 ix,.int .i64 sb,.int .i64 on,.int .u32 (ow:Nat),.slice Aj ob.length cj]):= zak (HQ2.out.below hb3 HQ2.out.lt)
 clear hO3 hb3
 dsimp only
 refine hK.out _ _ ?hS36 (fun hHeld=>?rest36)
 case hS36=>((try dsimp only);(exact⟨HR3.out.blk.cell 0 rfl,HR3.out.blk.cell 1 rfl,HR3.out.blk.cell 4 rfl,HR3.out.blk.cell 5 rfl⟩))
 case' rest36=>(clear hK K;try simp only[PqL,Act.put])
 refine wpAnyH_ready (rs:= [29]) (by kernel_rfl) (by simp) ?_
 refine AllReadyH.cons (o:=_) rfl (fun K hK=>?_) .nil
 go_simp
 refine (z0u _ HR3.out hn1).mono ?_
 rintro e w4 ⟨A4,n4,c4',ds4,rfl,hO4,_,hb4⟩
 have HO4:=zak hO4
 have HO34:=zak (zcq.below HO3.out hb4)
 have HB4:=zak (zbd hb4 HB3.out)
 have HR4:=zak (HR3.out.below hb4)
 have hn3:n3≤35184372088:=by rw[HO3.out.hn,ztm _ _ HS2.out.lenV,← HS2.out.hn];omega
 clear hO4 hb4
 dsimp only
 refine hK.out _ _ ?hS39 (fun hHeld=>?rest39)
 case hS39=>((try dsimp only);(exact⟨HR4.out.blk.cell 0 rfl,HR4.out.blk.cell 1 rfl,HR4.out.blk.cell 4 rfl,HR4.out.blk.cell 5 rfl⟩))
 case' rest39=>(clear hK K;try simp only[PqL,Act.put])
 refine wpAnyH_ready (rs:= [30]) (by kernel_rfl) (by simp) ?_
 refine AllReadyH.cons (o:=_) rfl (fun K hK=>?_) .nil
 go_simp
 refine (z0c A3 A4 n3 n4 c3' c4' _ _ HO3.out.hn HO4.out.hn HO3.out.own.le HO4.out.own.le hn3 (zcq.slV HO34.out) (zcq.slV HO4.out)).mono ?_
 rintro e w5 ⟨rfl,hb5⟩
 have HB5:=zak (zbd hb5 HB4.out)
 have HR5:=zak (HR4.out.below hb5)
 clear hb5
 dsimp only
 refine hK.out _ _ ?hS42 (fun hHeld=>?rest42)
 case hS42=>((try dsimp only);(exact⟨HR5.out.blk.cell 0 rfl,HR5.out.blk.cell 1 rfl,HR5.out.blk.cell 4 rfl,HR5.out.blk.cell 5 rfl⟩))
 case' rest42=>(clear hK K;try simp only[PqL,Act.put])
 refine tkH 31 ?_
 try simp only[PqL,Act.put]
 refine tkH 32 ?_
 try simp only[PqL,Act.put]
 refine wpAnyH_done (by kernel_rfl) ?_ _
 have hEnd:=hHeld.2
 repeat (clear hHeld)
 clear hEnd
 go_wp2_with fail
 go_ret
 have hv:ValsP L (applyV L (L.map Ent.df) X):= by
  unfold applyV
  split
  · exact zwd HL.out.sort (by simp) (zv9 HL.out.right) X
  · exact zv9 HL.out.right
 have hlo2:lo≤w2.heap.size:=by have:=HSZ.out;have:=HO2.out.size;omega
 refine (⟨rfl,HBL.out.trans (HB5.out.mono hlo2),.inl ⟨_,S,X,J,odd,off,pv,prv,_,⟨hv,HP.out.good,HP.out.run,by have:=HP.out.ops;omega,HP.out.len,HP.out.three⟩,HS2.out.below HB5.out,HR5.out⟩⟩:DoRes M lo pw pd pt qf qr n L N w _ _)
theorem z0w (ix sb:Int) (kc:Nat) (ow:Nat) (Aj:Option Addr) (cj:Nat) (ob:List UInt8) (w:World) (hL:PlL L) (hP:PlP9 L V S X J N) (hS:zzl (.pointer (some ⟨pv,0,none⟩)) (.pointer (some ⟨prv,0,none⟩)) (KR pw FR) M lo w pw pd pv qf n L V J S X odd off) (hR:zzz w FR lo pw pd pt pv prv qf qr n L V S X odd off) (hkc:kc≤9223372036854775807) (how:U32 ow) :
 Calls Tryz.prog 32 #[.pointer (some ⟨pw,0,none⟩),.agg #[.int .i64 4,.int .i64 ix,.int .i64 sb,.int .i64 (kc:Nat),.int .u32 (ow:Nat),.slice Aj ob.length cj]] w (DoRes M lo pw pd pt qf qr n L N w):= by
 have q8:=zbm w 48 #[.int .i64 4,.int .i64 ix,.int .i64 sb,.int .i64 (kc:Nat),.int .u32 (ow:Nat),.slice Aj ob.length cj]
 have hb8:=zbf (Below.refl w.heap.size w) (.cells #[.int .i64 4,.int .i64 ix,.int .i64 sb,.int .i64 (kc:Nat),.int .u32 (ow:Nat),.slice Aj ob.length cj] 48)
 have HS8:=zak (z0d (.cells #[.int .i64 4,.int .i64 ix,.int .i64 sb,.int .i64 (kc:Nat),.int .u32 (ow:Nat),.slice Aj ob.length cj] 48) hS)
 have HR8:=zak (hR.below hb8)
 have HP:=zak hP
 have HL:=zak hL
 have HB8:=zak hb8
 have HQ8:=zak q8
 obtain⟨hlp,hpw⟩:= z0g hS
 have HSZ:=zak (show lo≤w.heap.size∧pw < w.heap.size∧pw < (w.alloc (.cells #[.int .i64 4,.int .i64 ix,.int .i64 sb,.int .i64 (kc:Nat),.int .u32 (ow:Nat),.slice Aj ob.length cj] 48)).heap.size∧lo≤(w.alloc (.cells #[.int .i64 4,.int .i64 ix,.int .i64 sb,.int .i64 (kc:Nat),.int .u32 (ow:Nat),.slice Aj ob.length cj] 48)).heap.size from ⟨by omega,hpw,by simp;omega,by simp;omega⟩)
 have HFL:=zak hR.frlt
 have hn1:n≤1000:=by rw[hS.hn];have:=hL.few;omega
 have hn2:n≤200:=by rw[hS.hn];exact hL.few
 have hBw:=HR8.out.blk
 have c0:=hBw.cell 0 (u:= .pointer (some ⟨pd,0,none⟩)) rfl
 have c1:=hBw.cell 1 (u:= .pointer (some ⟨pt,0,none⟩)) rfl
 have c2:=hBw.cell 2 (u:= .pointer (some ⟨qf.p,0,none⟩)) rfl
 have c3:=hBw.cell 3 (u:= .pointer (some ⟨qr.p,0,none⟩)) rfl
 have c4:=hBw.cell 4 (u:= .pointer (some ⟨pv,0,none⟩)) rfl
 have c5:=hBw.cell 5 (u:= .pointer (some ⟨prv,0,none⟩)) rfl
 have o1:=q8.cell 1 (u:= .int .i64 ix) rfl
 have o2:=q8.cell 2 (u:= .int .i64 sb) rfl
 have o3:=q8.cell 3 (u:= .int .i64 (kc:Nat)) rfl
 have o4:=q8.cell 4 (u:= .int .u32 (ow:Nat)) rfl
 have o5:=q8.cell 5 (u:= .slice Aj ob.length cj) rfl
 clear q8 hb8 hL hP hS hR hBw
 go_enter Tryz.func32,Tryz.ntmps32
 go_wp2_with fail
 refine wp_region_held_drew (S:=(fun w'=>w'.cell? ⟨pw,2,none⟩=some (.pointer (some ⟨qf.p,0,none⟩))∧ w'.cell? ⟨pw,3,none⟩=some (.pointer (some ⟨qr.p,0,none⟩))∧ w'.cell? ⟨w.heap.size,3,none⟩=some (.int .i64 (kc:Nat))∧ w'.cell? ⟨w.heap.size,4,none⟩=some (.int .u32 (ow:Nat)))) (by kernel_rfl) ?hS46 (fun hHeld=>?rest46)
 case hS46=>((try dsimp only);(exact⟨c2,c3,o3,o4⟩))
 case' rest46=>skip
 iterate 8 (refine tkN ?_;try simp only[PqL,Act.put])
 refine tkH 9 ?_
 try simp only[PqL,Act.put]
 refine tkH 10 ?_
 try simp only[PqL,Act.put]
 refine tkH 11 ?_
 try simp only[PqL,Act.put]
 refine tkH 12 ?_
 try simp only[PqL,Act.put]
 refine tkH 13 ?_
 try simp only[PqL,Act.put]
 refine tkH 14 ?_
 try simp only[PqL,Act.put]
 refine tkH 15 ?_
 try simp only[PqL,Act.put]
 refine tkH 16 ?_
 try simp only[PqL,Act.put]
 refine wpAnyH_ready (rs:= [8]) (by kernel_rfl) (by simp) ?_
 refine AllReadyH.cons (o:=_) rfl (fun K hK=>?_) .nil
 go_simp
 refine (zzw kc ow _ (HS8.out.below (Below.drew (Below.refl _ _))) hkc how).mono ?_
 rintro e w1 ⟨rfl,hS1,ho1'⟩
 have ho1:=zub ho1'
 have HS1:=zak hS1
 have HO1:=zak ho1
 have HR1:=zak (HR8.out.free (z0e ho1))
 have HQ1:Hid (Blk w1 w.heap.size 48 #[.int .i64 4,.int .i64 ix,.int .i64 sb,.int .i64 (kc:Nat),.int .u32 (ow:Nat),.slice Aj ob.length cj]):= zak ((ho1.block _ HQ8.out.lt (fun hx=>hx.2 (.inr (.inr rfl)))).trans HQ8.out)
 have hz1:=ho1.size
 clear hS1 ho1 ho1'
 dsimp only
 refine hK.out _ _ ?hS65 (fun hHeld=>?rest65)
 case hS65=>((try dsimp only);(exact⟨HR1.out.blk.cell 2 rfl,HR1.out.blk.cell 3 rfl,HQ1.out.cell 3 rfl,HQ1.out.cell 4 rfl⟩))
 case' rest65=>(clear hK K;try simp only[PqL,Act.put])
 refine wpAnyH_ready (rs:= [17]) (by kernel_rfl) (by simp) ?_
 refine AllReadyH.cons (o:=_) rfl (fun K hK=>?_) .nil
 go_simp
 refine (zz7 kc ow w1 HR1.out (by have:=HSZ.out;omega) hkc how).mono ?_
 rintro e w2 ⟨rfl,hR2,ho2⟩
 have HR2:=zak hR2
 have HO2:=zak ho2
 have HQ2:Hid (Blk w2 w.heap.size 48 #[.int .i64 4,.int .i64 ix,.int .i64 sb,.int .i64 (kc:Nat),.int .u32 (ow:Nat),.slice Aj ob.length cj]):= zak ((ho2.block _ HQ1.out.lt (fun hx=>by have:=(HFL.out _ hx.1).2.1;omega)).trans HQ1.out)
 clear hR2 ho2
 dsimp only
 refine hK.out _ _ ?hS68 (fun hHeld=>?rest68)
 case hS68=>((try dsimp only);(exact⟨HR2.out.blk.cell 2 rfl,HR2.out.blk.cell 3 rfl,HQ2.out.cell 3 rfl,HQ2.out.cell 4 rfl⟩))
 case' rest68=>(clear hK K;try simp only[PqL,Act.put])
 refine tkH 18 ?_
 try simp only[PqL,Act.put]
 refine tkH 19 ?_
 try simp only[PqL,Act.put]
 refine wpAnyH_done (by kernel_rfl) ?_ _
 have hEnd:=hHeld.2
 repeat (clear hHeld)
 clear hEnd
 go_wp2_with fail
 go_ret
 have hz2:=HO2.out.size
 refine (⟨rfl,z0i HB8.out HSZ.out.1 HO1.out HO2.out (fun g hg=>(HFL.out g hg.1).1),.inl ⟨V,{ S with ahead:=((kc:Nat):Int),mask:=ow },X,J,odd,off,pv,prv,_,⟨HP.out.vals,HP.out.good,HP.out.run.elim .inl (fun h=> .inr ⟨h.1,h.2⟩),by have:=HP.out.ops;show S.ops≤_;omega,HP.out.len,HP.out.three⟩,z0f HS1.out HO2.out,zzz.grow HR2.out HFL.out (by have:=HSZ.out;omega) (by have:=HB8.out.size;omega) hz2 (by have:=HSZ.out;omega)⟩⟩:DoRes M lo pw pd pt qf qr n L N w _ _)
theorem z0x (ix sb on:Int) (ow:Nat) (Aj:Option Addr) (cj:Nat) (ob:List UInt8) (w:World) (hL:PlL L) (hP:PlP9 L V S X J N) (hS:zzl (.pointer (some ⟨pv,0,none⟩)) (.pointer (some ⟨prv,0,none⟩)) (KR pw FR) M lo w pw pd pv qf n L V J S X odd off) (hR:zzz w FR lo pw pd pt pv prv qf qr n L V S X odd off) (hneg:on < 0) :
 Calls Tryz.prog 32 #[.pointer (some ⟨pw,0,none⟩),.agg #[.int .i64 4,.int .i64 ix,.int .i64 sb,.int .i64 on,.int .u32 (ow:Nat),.slice Aj ob.length cj]] w (DoRes M lo pw pd pt qf qr n L N w):= by
 have q8:=zbm w 48 #[.int .i64 4,.int .i64 ix,.int .i64 sb,.int .i64 on,.int .u32 (ow:Nat),.slice Aj ob.length cj]
 have hb8:=zbf (Below.refl w.heap.size w) (.cells #[.int .i64 4,.int .i64 ix,.int .i64 sb,.int .i64 on,.int .u32 (ow:Nat),.slice Aj ob.length cj] 48)
 have HS8:=zak (z0d (.cells #[.int .i64 4,.int .i64 ix,.int .i64 sb,.int .i64 on,.int .u32 (ow:Nat),.slice Aj ob.length cj] 48) hS)
 have HR8:=zak (hR.below hb8)
 have HP:=zak hP
 have HL:=zak hL
 have HB8:=zak hb8
 have HQ8:=zak q8
 obtain⟨hlp,hpw⟩:= z0g hS
 have HSZ:=zak (show lo≤w.heap.size∧pw < w.heap.size∧pw < (w.alloc (.cells #[.int .i64 4,.int .i64 ix,.int .i64 sb,.int .i64 on,.int .u32 (ow:Nat),.slice Aj ob.length cj] 48)).heap.size∧lo≤(w.alloc (.cells #[.int .i64 4,.int .i64 ix,.int .i64 sb,.int .i64 on,.int .u32 (ow:Nat),.slice Aj ob.length cj] 48)).heap.size from ⟨by omega,hpw,by simp;omega,by simp;omega⟩)
 have HFL:=zak hR.frlt
 have hn1:n≤1000:=by rw[hS.hn];have:=hL.few;omega
 have hn2:n≤200:=by rw[hS.hn];exact hL.few
 have hBw:=HR8.out.blk
 have c0:=hBw.cell 0 (u:= .pointer (some ⟨pd,0,none⟩)) rfl
 have c1:=hBw.cell 1 (u:= .pointer (some ⟨pt,0,none⟩)) rfl
 have c2:=hBw.cell 2 (u:= .pointer (some ⟨qf.p,0,none⟩)) rfl
 have c3:=hBw.cell 3 (u:= .pointer (some ⟨qr.p,0,none⟩)) rfl
 have c4:=hBw.cell 4 (u:= .pointer (some ⟨pv,0,none⟩)) rfl
 have c5:=hBw.cell 5 (u:= .pointer (some ⟨prv,0,none⟩)) rfl
 have o1:=q8.cell 1 (u:= .int .i64 ix) rfl
 have o2:=q8.cell 2 (u:= .int .i64 sb) rfl
 have o3:=q8.cell 3 (u:= .int .i64 on) rfl
 have o4:=q8.cell 4 (u:= .int .u32 (ow:Nat)) rfl
 have o5:=q8.cell 5 (u:= .slice Aj ob.length cj) rfl
 have HSa:=zak (z0j (hS.below hb8))
 have HRa:=zak (z0k HR8.out)
 clear q8 hb8 hL hP hS hR hBw
 go_enter Tryz.func32,Tryz.ntmps32
 go_wp2_with fail
 refine wp_region_held_drew (S:=(fun w'=>w'.cell? ⟨pw,2,none⟩=some (.pointer (some ⟨qf.p,0,none⟩))∧ w'.cell? ⟨pw,3,none⟩=some (.pointer (some ⟨qr.p,0,none⟩))∧ w'.cell? ⟨w.heap.size,3,none⟩=some (.int .i64 on)∧ w'.cell? ⟨w.heap.size,4,none⟩=some (.int .u32 (ow:Nat)))) (by kernel_rfl) ?hS72 (fun hHeld=>?rest72)
 case hS72=>((try dsimp only);(exact⟨c2,c3,o3,o4⟩))
 case' rest72=>skip
 iterate 8 (refine tkN ?_;try simp only[PqL,Act.put])
 refine tkH 9 ?_
 try simp only[PqL,Act.put]
 refine tkH 10 ?_
 try simp only[PqL,Act.put]
 refine tkH 11 ?_
 try simp only[PqL,Act.put]
 refine tkH 12 ?_
 try simp only[PqL,Act.put]
 refine tkH 13 ?_
 try simp only[PqL,Act.put]
 refine tkH 14 ?_
 try simp only[PqL,Act.put]
 refine tkH 15 ?_
 try simp only[PqL,Act.put]
 refine tkH 16 ?_
 try simp only[PqL,Act.put]
 refine wpAnyH_ready (rs:= [8]) (by kernel_rfl) (by simp) ?_
 refine AllReadyH.cons (o:=_) rfl (fun K hK=>?_) .nil
 go_simp
 refine (zzb qf on _ _ hneg).mono ?_
 rintro e w1 ⟨rfl,rfl⟩
 dsimp only
 refine hK.out _ _ ?hS91 (fun hHeld=>?rest91)
 case hS91=>((try dsimp only);(exact⟨c2,c3,o3,o4⟩))
 case' rest91=>(clear hK K;try simp only[PqL,Act.put])
 refine wpAnyH_ready (rs:= [17]) (by kernel_rfl) (by simp) ?_
 refine AllReadyH.cons (o:=_) rfl (fun K hK=>?_) .nil
 go_simp
 refine (zzc qr on _ _ hneg).mono ?_
 rintro e w2 ⟨rfl,rfl⟩
 dsimp only
 refine hK.out _ _ ?hS94 (fun hHeld=>?rest94)
 case hS94=>((try dsimp only);(exact⟨c2,c3,o3,o4⟩))
 case' rest94=>(clear hK K;try simp only[PqL,Act.put])
 refine tkH 18 ?_
 try simp only[PqL,Act.put]
 refine tkH 19 ?_
 try simp only[PqL,Act.put]
 refine wpAnyH_done (by kernel_rfl) ?_ _
 have hEnd:=hHeld.2
 repeat (clear hHeld)
 clear hEnd
 go_wp2_with fail
 go_ret
 refine (⟨rfl,(Below.drew HB8.out).mono HSZ.out.1,.inl ⟨V,S,X,J,odd,off,pv,prv,FR,⟨HP.out.vals,HP.out.good,HP.out.run,by have:=HP.out.ops;omega,HP.out.len,HP.out.three⟩,HSa.out,HRa.out⟩⟩:DoRes M lo pw pd pt qf qr n L N w _ _)
theorem z0y (ix sb on:Int) (ow:Nat) (Aj:Option Addr) (cj:Nat) (ob:List UInt8) (w:World) (hL:PlL L) (hP:PlP9 L V S X J N) (hS:zzl (.pointer (some ⟨pv,0,none⟩)) (.pointer (some ⟨prv,0,none⟩)) (KR pw FR) M lo w pw pd pv qf n L V J S X odd off) (hR:zzz w FR lo pw pd pt pv prv qf qr n L V S X odd off) :
 Calls Tryz.prog 32 #[.pointer (some ⟨pw,0,none⟩),.agg #[.int .i64 5,.int .i64 ix,.int .i64 sb,.int .i64 on,.int .u32 (ow:Nat),.slice Aj ob.length cj]] w (DoRes M lo pw pd pt qf qr n L N w):= by
 have q8:=zbm w 48 #[.int .i64 5,.int .i64 ix,.int .i64 sb,.int .i64 on,.int .u32 (ow:Nat),.slice Aj ob.length cj]
 have hb8:=zbf (Below.refl w.heap.size w) (.cells #[.int .i64 5,.int .i64 ix,.int .i64 sb,.int .i64 on,.int .u32 (ow:Nat),.slice Aj ob.length cj] 48)
 have HS8:=zak (z0d (.cells #[.int .i64 5,.int .i64 ix,.int .i64 sb,.int .i64 on,.int .u32 (ow:Nat),.slice Aj ob.length cj] 48) hS)
 have HR8:=zak (hR.below hb8)
 have HP:=zak hP
 have HL:=zak hL
 have HB8:=zak hb8
 have HQ8:=zak q8
 obtain⟨hlp,hpw⟩:= z0g hS
 have HSZ:=zak (show lo≤w.heap.size∧pw < w.heap.size∧pw < (w.alloc (.cells #[.int .i64 5,.int .i64 ix,.int .i64 sb,.int .i64 on,.int .u32 (ow:Nat),.slice Aj ob.length cj] 48)).heap.size∧lo≤(w.alloc (.cells #[.int .i64 5,.int .i64 ix,.int .i64 sb,.int .i64 on,.int .u32 (ow:Nat),.slice Aj ob.length cj] 48)).heap.size from ⟨by omega,hpw,by simp;omega,by simp;omega⟩)
 have HFL:=zak hR.frlt
 have hn1:n≤1000:=by rw[hS.hn];have:=hL.few;omega
 have hn2:n≤200:=by rw[hS.hn];exact hL.few
 have hBw:=HR8.out.blk
 have c0:=hBw.cell 0 (u:= .pointer (some ⟨pd,0,none⟩)) rfl
 have c1:=hBw.cell 1 (u:= .pointer (some ⟨pt,0,none⟩)) rfl
 have c2:=hBw.cell 2 (u:= .pointer (some ⟨qf.p,0,none⟩)) rfl
 have c3:=hBw.cell 3 (u:= .pointer (some ⟨qr.p,0,none⟩)) rfl
 have c4:=hBw.cell 4 (u:= .pointer (some ⟨pv,0,none⟩)) rfl
 have c5:=hBw.cell 5 (u:= .pointer (some ⟨prv,0,none⟩)) rfl
 have o1:=q8.cell 1 (u:= .int .i64 ix) rfl
 have o2:=q8.cell 2 (u:= .int .i64 sb) rfl
 have o3:=q8.cell 3 (u:= .int .i64 on) rfl
 have o4:=q8.cell 4 (u:= .int .u32 (ow:Nat)) rfl
 have o5:=q8.cell 5 (u:= .slice Aj ob.length cj) rfl
 have HPR:=zak (zz8 (hS.below hb8) HR8.out)
 clear q8 hb8 hL hP hS hR hBw
 have hpre:=HPR.out
 obtain⟨gl,cl,cv,Av,ds,es,Fd,Al,clt,Avt,cvt,dt,et,Ft,hpx⟩:= hpre
 have HPX:=zak hpx
 clear hpx
 go_enter Tryz.func32,Tryz.ntmps32
 go_wp2_with fail
 refine (zhl qf S _ HPX.out.fd).mono ?_
 rintro e w1 ⟨rfl,hF1,ho1⟩
 have HF1:=zak hF1
 have HO1:=zak ho1
 have p1:qf.F qf.p:= .inl rfl
 have hR1:RF w1 qr S:=HPX.out.rf.only ho1 (fun g hg e=>(HPX.out.inQ qf.p p1).2.2.2 (e ▸ hg))
 have HR1:=zak hR1
 have d3:=(ho1.block pw HSZ.out.2.2.1 (fun e=>(HPX.out.inQ qf.p p1).2.2.1 e.symm))
 have hbw1:Blk w1 pw 44 #[.pointer (some ⟨pd,0,none⟩),.pointer (some ⟨pt,0,none⟩),.pointer (some ⟨qf.p,0,none⟩),.pointer (some ⟨qr.p,0,none⟩),.pointer (some ⟨pv,0,none⟩),.pointer (some ⟨prv,0,none⟩)]:= d3.trans HR8.out.blk
 have k3:=hbw1.cell 3 (u:= .pointer (some ⟨qr.p,0,none⟩)) rfl
 clear hF1 ho1 d3 hbw1 hR1
 go_wp2_with fail
 refine (zze qr S w1 HR1.out).mono ?_
 rintro e w2 ⟨rfl,hF2,ho2⟩
 have HF2:=zak hF2
 have HO2:=zak ho2
 obtain⟨gl,cl,cv,Av,ds,es,Fd,Al,clt,Avt,cvt,dt,et,Ft,hpf⟩:= zz9 HPR.out HF1.out HO1.out
 have HP2:=zak (show PreE M lo w2 pw pd pt qf qr n L V { S with off:=false } from ⟨_,_,_,_,_,_,_,_,_,_,_,_,_,_,hpf w2 ho2 hF2⟩)
 clear hF2 ho2 hpf
 go_wp2_with fail
 refine (z0a w2 HP2.out HL.out.sort hn1 rfl HP.out.three).mono ?_
 rintro e w3 ⟨rfl,ho3,pv',prv',FR',hS3,hR3⟩
 have HH:=zak (And.intro ho3 (And.intro hS3 hR3))
 clear ho3 hS3 hR3
 go_wp2_with fail
 go_ret
 have p2:qr.F qr.p:= .inl rfl
 have z1:=HO1.out.size
 have z2:=HO2.out.size
 have k1:=(HB8.out.mono HSZ.out.1).trans (HO1.out.below HSZ.out.2.2.2 (fun i hi=>by rw[hi];exact (HPX.out.inQ _ p1).1))
 have k2:=k1.trans (HO2.out.below (by have:=HSZ.out;omega) (fun i hi=>by rw[hi];exact (HPX.out.inR _ p2).1))
 have k4:=k2.trans (HH.out.1.below (by have:=HSZ.out;omega) (fun i hi=>by rw[hi];exact HPX.out.loP))
 refine (⟨rfl,k4,.inl ⟨V,{ S with off:=false },_,_,_,_,pv',prv',FR',⟨HP.out.vals,zx4 HL.out.sort _,.inr ⟨rfl,rfl⟩,by have:=HP.out.ops;show S.ops≤_;omega,HP.out.len,HP.out.three⟩,HH.out.2.1,HH.out.2.2⟩⟩:DoRes M lo pw pd pt qf qr n L N w _ _)
theorem z0z (kind ix sb on:Int) (ow:Nat) (Aj:Option Addr) (cj:Nat) (ob:List UInt8) (w:World) (hL:PlL L) (hP:PlP9 L V S X J N) (hS:zzl (.pointer (some ⟨pv,0,none⟩)) (.pointer (some ⟨prv,0,none⟩)) (KR pw FR) M lo w pw pd pv qf n L V J S X odd off) (hR:zzz w FR lo pw pd pt pv prv qf qr n L V S X odd off) (hk:kind≠0∧kind≠1∧kind≠2∧kind≠3∧kind≠4∧kind≠5) :
 Calls Tryz.prog 32 #[.pointer (some ⟨pw,0,none⟩),.agg #[.int .i64 kind,.int .i64 ix,.int .i64 sb,.int .i64 on,.int .u32 (ow:Nat),.slice Aj ob.length cj]] w (DoRes M lo pw pd pt qf qr n L N w):= by
 have q8:=zbm w 48 #[.int .i64 kind,.int .i64 ix,.int .i64 sb,.int .i64 on,.int .u32 (ow:Nat),.slice Aj ob.length cj]
 have hb8:=zbf (Below.refl w.heap.size w) (.cells #[.int .i64 kind,.int .i64 ix,.int .i64 sb,.int .i64 on,.int .u32 (ow:Nat),.slice Aj ob.length cj] 48)
 have HS8:=zak (z0d (.cells #[.int .i64 kind,.int .i64 ix,.int .i64 sb,.int .i64 on,.int .u32 (ow:Nat),.slice Aj ob.length cj] 48) hS)
 have HR8:=zak (hR.below hb8)
 have HP:=zak hP
 have HL:=zak hL
 have HB8:=zak hb8
 have HQ8:=zak q8
 obtain⟨hlp,hpw⟩:= z0g hS
 have HSZ:=zak (show lo≤w.heap.size∧pw < w.heap.size∧pw < (w.alloc (.cells #[.int .i64 kind,.int .i64 ix,.int .i64 sb,.int .i64 on,.int .u32 (ow:Nat),.slice Aj ob.length cj] 48)).heap.size∧lo≤(w.alloc (.cells #[.int .i64 kind,.int .i64 ix,.int .i64 sb,.int .i64 on,.int .u32 (ow:Nat),.slice Aj ob.length cj] 48)).heap.size from ⟨by omega,hpw,by simp;omega,by simp;omega⟩)
 have HFL:=zak hR.frlt
 have hn1:n≤1000:=by rw[hS.hn];have:=hL.few;omega
 have hn2:n≤200:=by rw[hS.hn];exact hL.few
 have hBw:=HR8.out.blk
 have c0:=hBw.cell 0 (u:= .pointer (some ⟨pd,0,none⟩)) rfl
 have c1:=hBw.cell 1 (u:= .pointer (some ⟨pt,0,none⟩)) rfl
 have c2:=hBw.cell 2 (u:= .pointer (some ⟨qf.p,0,none⟩)) rfl
 have c3:=hBw.cell 3 (u:= .pointer (some ⟨qr.p,0,none⟩)) rfl
 have c4:=hBw.cell 4 (u:= .pointer (some ⟨pv,0,none⟩)) rfl
 have c5:=hBw.cell 5 (u:= .pointer (some ⟨prv,0,none⟩)) rfl
 have o1:=q8.cell 1 (u:= .int .i64 ix) rfl
 have o2:=q8.cell 2 (u:= .int .i64 sb) rfl
 have o3:=q8.cell 3 (u:= .int .i64 on) rfl
 have o4:=q8.cell 4 (u:= .int .u32 (ow:Nat)) rfl
 have o5:=q8.cell 5 (u:= .slice Aj ob.length cj) rfl
 have HPR:=zak (zz8 (hS.below hb8) HR8.out)
 have o0:=q8.cell 0 (u:= .int .i64 kind) rfl
 clear q8 hb8 hL hP hS hR hBw
 obtain⟨e0,e1,e2,e3,e4,e5⟩:= hk
 have u0:(kind == 0)=false:=by simp[e0]
 have u1:(kind == 1)=false:=by simp[e1]
 have u2:(kind == 2)=false:=by simp[e2]
 have u3:(kind == 3)=false:=by simp[e3]
 have u4:(kind == 4)=false:=by simp[e4]
 have u5:(kind == 5)=false:=by simp[e5]
 by_cases hoff:S.off=false
 · have HOF:=zak hoff
   clear hoff
   go_enter Tryz.func32,Tryz.ntmps32
   go_wp2_with fail
   refine (z0a _ HPR.out HL.out.sort hn1 HOF.out HP.out.three).mono ?_
   rintro e w3 ⟨rfl,ho3,pv',prv',FR',hS3,hR3⟩
   have HH:=zak (And.intro ho3 (And.intro hS3 hR3))
   clear ho3 hS3 hR3
   go_wp2_with fail
   go_ret
   have k4:=(HB8.out.mono HSZ.out.1).trans (HH.out.1.below HSZ.out.2.2.2 (fun i hi=>by rw[hi];exact hlp))
   refine (⟨rfl,k4,.inl ⟨V,S,_,_,_,_,pv',prv',FR',⟨HP.out.vals,zx4 HL.out.sort _,.inr ⟨rfl,HOF.out⟩,by have:=HP.out.ops;omega,HP.out.len,HP.out.three⟩,HH.out.2.1,HH.out.2.2⟩⟩:DoRes M lo pw pd pt qf qr n L N w _ _)
 · have hoff:S.off=true:=by simpa using hoff
   have HOF:=zak hoff
   clear hoff
   go_enter Tryz.func32,Tryz.ntmps32
   go_wp2_with fail
   refine (z0b 7 _ HPR.out (.inl ⟨HOF.out,rfl⟩)).mono ?_
   rintro e w3 ⟨rfl,hc3,ho3,hP3⟩
   have HH:=zak (And.intro ho3 (And.intro hc3 hP3))
   clear ho3 hc3 hP3
   go_wp2_with fail
   go_ret
   have k4:=(HB8.out.mono HSZ.out.1).trans (HH.out.1.below HSZ.out.2.2.2 (fun i hi=>by rw[hi];exact hlp))
   refine (⟨rfl,k4,.inr ⟨HH.out.2.1,V,S,HH.out.2.2⟩⟩:DoRes M lo pw pd pt qf qr n L N w _ _)
end
end
section
open Go.RowKit
set_option maxRecDepth 20000
set_option maxHeartbeats 2000000
section
variable {M lo pw pd pt pv prv n N:Nat} {qf qr:FP} {L:List Ent} {V:List (List UInt8)} {J:JS} {S:FS} {X:List SV} {odd off:Bool} {FR:Nat→Prop}
theorem z00 (o:SOp) (Aj:Option Addr) (cj:Nat) (w:World) (hL:PlL L) (hP:PlP9 L V S X J N) (hS:zzl (.pointer (some ⟨pv,0,none⟩)) (.pointer (some ⟨prv,0,none⟩)) (KR pw FR) M lo w pw pd pv qf n L V J S X odd off) (hR:zzz w FR lo pw pd pt pv prv qf qr n L V S X odd off)
 (hc:o.b.length≤cj) (hl:o.b.length≤1000) (hb:Sl w Aj (o.b.map bv)) (hbo:∀ W,Below lo w W→Sl W Aj (o.b.map bv)) (hn:o.n≤9223372036854775807) (hw:o.w≤4294967295) (a:Nat→Addr) (hG:GV w a M) (hN:N+3000 < 4611686018427387904) :
 Calls Tryz.prog 32 #[.pointer (some ⟨pw,0,none⟩),.agg #[.int .i64 o.kind,.int .i64 o.ix,.int .i64 o.sub,.int .i64 o.n,.int .u32 (o.w:Nat),.slice Aj o.b.length cj]] w (DoRes M lo pw pd pt qf qr n L N w):= by
 obtain⟨kd,ix,sb,on,ow,ob⟩:= o
 dsimp only at *
 by_cases h0:kd=0
 · subst h0;exact z0p ix sb on ow Aj cj ob w hL hP hS hR hc hl hb hbo
 by_cases h1:kd=1
 · subst h1
   by_cases hg:1≤on∧on≤4
   · exact z0q ix sb on ow Aj cj ob w hL hP hS hR a hG hN hg
   · exact z0s ix sb on ow Aj cj ob w hL hP hS hR hg
 by_cases h2:kd=2
 · subst h2
   by_cases hg:1≤on∧on≤4
   · exact z0r ix sb on ow Aj cj ob w hL hP hS hR a hG hN hg
   · exact z0t ix sb on ow Aj cj ob w hL hP hS hR hg
 by_cases h3:kd=3
 · subst h3;exact z0v ix sb on ow Aj cj ob w hL hP hS hR
 by_cases h4:kd=4
 · subst h4
   by_cases hneg:on < 0
   · exact z0x ix sb on ow Aj cj ob w hL hP hS hR hneg
   · obtain⟨kc,rfl⟩:= Int.eq_ofNat_of_zero_le (show 0≤on by omega)
     exact z0w ix sb kc ow Aj cj ob w hL hP hS hR (by omega) (by unfold U32;omega)
 by_cases h5:kd=5
 · subst h5;exact z0y ix sb on ow Aj cj ob w hL hP hS hR
 · exact z0z kd ix sb on ow Aj cj ob w hL hP hS hR ⟨h0,h1,h2,h3,h4,h5⟩
end
end
end Go.Proofs.YtehabbnohoomjaaGreatDoor
