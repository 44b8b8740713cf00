/- None -/
import Derived.Test.YthdbckbpldlkeaaQ27
namespace Go.Proofs.Ythdbckbpldlkeaa
set_option linter.unusedVariables false
set_option linter.unusedSimpArgs false
set_option linter.unnecessarySimpa false
section
open Go.RowKit
set_option maxRecDepth 100000
set_option maxHeartbeats 16000000
theorem zkz (kind:Int) (ix sub sq bl em size code sum n c:Nat) (tg la cr sz:Bool) (A:Option Addr) (data:List UInt8) (w:World) (k1:1≤kind) (k2:kind≤21) (hu1:size≤4294967295) (hu2:code≤4294967295) (hu3:sum≤65535)
 (A2:ix≤65535) (B2:sub≤255) (C2:sq≤127) (D2:bl≤127) (E2:em≤7) (hn:n=data.length) (hn7:n≤7) (hn4:kind=2∨kind=14→n≤4) (hs:Sl w A (data.map bv)) (hg:kind=15∨kind=19∨kind=20∨kind=21) :
 Calls Try.prog 85 #[.agg #[.int .i64 kind,.int .i64 (ix:Nat),.int .i64 (sub:Nat),.bool tg,.bool la,.bool cr,.bool sz,.int .u32 (size:Nat),.int .u32 (code:Nat),.slice A n c,.int .i64 (sq:Nat),.int .i64 (bl:Nat),.int .i64 (em:Nat),.int .u16 (sum:Nat)]] w (LaidR w (rlaidL kind n ix sub size code sq bl em sum tg la cr sz data)):= by
 have q0:=zbu w 72 #[.int .i64 kind,.int .i64 (ix:Nat),.int .i64 (sub:Nat),.bool tg,.bool la,.bool cr,.bool sz,.int .u32 (size:Nat),.int .u32 (code:Nat),.slice A n c,.int .i64 (sq:Nat),.int .i64 (bl:Nat),.int .i64 (em:Nat),.int .u16 (sum:Nat)]
 have hbw:=zbp (Below.refl w.heap.size w) (.cells #[.int .i64 kind,.int .i64 (ix:Nat),.int .i64 (sub:Nat),.bool tg,.bool la,.bool cr,.bool sz,.int .u32 (size:Nat),.int .u32 (code:Nat),.slice A n c,.int .i64 (sq:Nat),.int .i64 (bl:Nat),.int .i64 (em:Nat),.int .u16 (sum:Nat)] 72)
 have HG:=zak hg
 clear hg
 have HN:=zak hn
 have H4:=zak hn4
 clear hn hn4
 go_enter Try.func85,Try.ntmps85
 go_upto_block 0 with (at_make;refine zb9 _ rfl _ _ rfl _ _ _ _ 8 8 rfl rfl rfl (by omega) (by omega) (by omega) (w.heap.size+1) (by simp) ?_;intro w1 hO1 hlt1 hb1;have c0:=(Blk.below q0 hb1 (by omega)).cell 0 rfl)
 have h0:Rt w1 w1 w.heap.size (w.heap.size+1) (w.heap.size+1) z8 #[.int .i64 kind,.int .i64 (ix:Nat),.int .i64 (sub:Nat),.bool tg,.bool la,.bool cr,.bool sz,.int .u32 (size:Nat),.int .u32 (code:Nat),.slice A n c,.int .i64 (sq:Nat),.int .i64 (bl:Nat),.int .i64 (em:Nat),.int .u16 (sum:Nat)]:=
  ⟨q0.below hb1 (by omega),hO1,by omega,World.grownBy.refl _ _,rfl⟩
 have hs1:Hid (Sl w1 A (data.map bv)):= zak (hs.below (hbw.trans (hb1.mono (by omega))))
 have hbw1:Hid (Below w.heap.size w w1):= zak (hbw.trans (hb1.mono (by omega)))
 have hsW:Hid (∀ W,w1.grownBy W (some (w.heap.size+1))→ Sl W A (data.map bv)):= zak (fun W hg=>by
  intro j u hu
  obtain⟨ad,e,hc⟩:= hs j u hu
  have hlt:=zal hc
  refine⟨ad,e,?_⟩
  obtain⟨_,_,e',hc'⟩:∃ x y:Unit,A=some ad∧w1.cell? (ad.add j)=some u:=⟨(),(),e,(hbw1.out.cell hlt).trans hc⟩
  rw[World.cell?_of_block (hg.block _ (zal hc') (by intro e2;injection e2 with e2;omega))]
  exact hc')
 clear q0 hbw hs hO1 hb1 c0
 go_cut [4,5] (fun s4 s5 wx=>s4= .int .i64 ((rfirB kind n tg la cr sz sq em:Nat):Int)∧ s5= .bool (rplcB kind)∧ Rt w1 wx w.heap.size (w.heap.size+1) (w.heap.size+1) (rbodL kind n size code sq bl sum data) #[.int .i64 kind,.int .i64 (ix:Nat),.int .i64 (sub:Nat),.bool tg,.bool la,.bool cr,.bool sz,.int .u32 (size:Nat),.int .u32 (code:Nat),.slice A n c,.int .i64 (sq:Nat),.int .i64 (bl:Nat),.int .i64 (em:Nat),.int .u16 (sum:Nat)])
 case first=>
  rcases HG.out with rfl | rfl | rfl | rfl
  · have i1:IntKind.i64.wrap (7 - (n:Int))=7 - (n:Int):= IntWalk.i64_in _ (by omega)
    have i2:IntKind.i64.wrap ((7 - (n:Int)) * 2)=(7 - (n:Int)) * 2:=IntWalk.i64_in _ (by omega)
    have i2':IntKind.i64.wrap (2 * (7 - (n:Int)))=2 * (7 - (n:Int)):= IntWalk.i64_in _ (by omega)
    cases tg
    · cases la
      · have qm:=h0.m
        obtain⟨qm_c0,qm_c1,qm_c2,qm_c3,qm_c4,qm_c5,qm_c6,qm_c7,qm_c8,qm_c9,qm_c10,qm_c11,qm_c12,qm_c13⟩:= zbs qm
        have qm_f:=qm.frozen
        have zm:=qm.lt
        go_wp2_with fail
        refine wp_region_held_drew (S:=(fun w'=>(∀ qA:Addr,qA.block < (w1).heap.size→w'.cell? qA=(w1).cell? qA)∧ Below (w1).heap.size (w1) w')) (by kernel_rfl) ?hS1 (fun hHeld=>?rest1)
        case hS1=>((try dsimp only);(((try go_split_ands);refine zbn ?_;repeat' (first | with_reducible assumption | with_reducible exact Below.refl _ _ | with_reducible apply zbp | with_reducible apply zb3 | with_reducible apply zb2 | (with_reducible apply zbo;with_reducible assumption) | (with_reducible apply zb4;(first | exact Nat.le_refl _ | (simp;done) | omega))))))
        case' rest1=>skip
        iterate 2 (refine tkN ?_;try simp only[PqL,Act.put])
        refine tkH 3 ?_
        try simp only[PqL,Act.put]
        refine tkH 4 ?_
        try simp only[PqL,Act.put]
        refine tkH 5 ?_
        try simp only[PqL,Act.put]
        refine tkH 6 ?_
        try simp only[PqL,Act.put]
        refine tkH 7 ?_
        try simp only[PqL,Act.put]
        refine tkH 9 ?_
        try simp only[PqL,Act.put]
        refine tkH 10 ?_
        try simp only[PqL,Act.put]
        refine wpAnyH_ready (rs:= [2]) (by kernel_rfl) (by simp) ?_
        refine AllReadyH.cons (o:=_) rfl (fun K hK=>?_) AllReadyH.nil
        go_simp
        refine (zj9 _ 16 _).mono ?_
        rintro e w3 ⟨rfl,rfl⟩
        try dsimp only
        refine hK.out _ _ ?hS13 (fun hHeld=>?rest13)
        case hS13=>((try dsimp only);(((try go_split_ands);refine zbn ?_;repeat' (first | with_reducible assumption | with_reducible exact Below.refl _ _ | with_reducible apply zbp | with_reducible apply zb3 | with_reducible apply zb2 | (with_reducible apply zbo;with_reducible assumption) | (with_reducible apply zb4;(first | exact Nat.le_refl _ | (simp;done) | omega))))))
        case' rest13=>(clear hK K;try simp only[PqL,Act.put])
        refine tkH 8 ?_
        try simp only[PqL,Act.put]
        refine wpAnyH_ready (rs:= [11]) (by kernel_rfl) (by simp) ?_
        refine AllReadyH.cons (o:=_) rfl (fun K hK=>?_) AllReadyH.nil
        go_simp
        refine (zj9 _ 1 _).mono ?_
        rintro e w4 ⟨rfl,rfl⟩
        try dsimp only
        refine hK.out _ _ ?hS17 (fun hHeld=>?rest17)
        case hS17=>((try dsimp only);(((try go_split_ands);refine zbn ?_;repeat' (first | with_reducible assumption | with_reducible exact Below.refl _ _ | with_reducible apply zbp | with_reducible apply zb3 | with_reducible apply zb2 | (with_reducible apply zbo;with_reducible assumption) | (with_reducible apply zb4;(first | exact Nat.le_refl _ | (simp;done) | omega))))))
        case' rest17=>(clear hK K;try simp only[PqL,Act.put])
        refine wpAnyH_ready (rs:= [12]) (by kernel_rfl) (by simp) ?_
        refine AllReadyH.cons (o:=_) rfl (fun K hK=>?_) AllReadyH.nil
        go_simp
        refine hK.out _ _ ?hS20 (fun hHeld=>?rest20)
        case hS20=>((try dsimp only);(((try go_split_ands);refine zbn ?_;repeat' (first | with_reducible assumption | with_reducible exact Below.refl _ _ | with_reducible apply zbp | with_reducible apply zb3 | with_reducible apply zb2 | (with_reducible apply zbo;with_reducible assumption) | (with_reducible apply zb4;(first | exact Nat.le_refl _ | (simp;done) | omega))))))
        case' rest20=>(clear hK K;try simp only[PqL,Act.put])
        refine wpAnyH_ready (rs:= [13]) (by kernel_rfl) (by simp) ?_
        refine AllReadyH.cons (o:=_) rfl (fun K hK=>?_) AllReadyH.nil
        go_simp
        refine hK.out _ _ ?hS23 (fun hHeld=>?rest23)
        case hS23=>((try dsimp only);(((try go_split_ands);refine zbn ?_;repeat' (first | with_reducible assumption | with_reducible exact Below.refl _ _ | with_reducible apply zbp | with_reducible apply zb3 | with_reducible apply zb2 | (with_reducible apply zbo;with_reducible assumption) | (with_reducible apply zb4;(first | exact Nat.le_refl _ | (simp;done) | omega))))))
        case' rest23=>(clear hK K;try simp only[PqL,Act.put])
        refine wpAnyH_done (by kernel_rfl) ?_ _
        have hEnd:=hHeld.2
        repeat (clear hHeld)
        clear hEnd i1 i2 i2'
        have g0:=h0.drew
        go_wp2_with fail
        generalize w1.drew=W0 at *
        obtain⟨W9,hrun,g9,_⟩:= zke A n c 1 7 data g0.drew HN.out rfl (by omega) (hsW.out _ g0.drew.gr)
        refine wp_region_held_drew (S:=(fun w'=>w'.cell? ⟨w.heap.size,9,none⟩=some (.slice A n c))) (by kernel_rfl) ?hS25 (fun hHeld=>?rest25)
        case hS25=>((try dsimp only);(exact g0.m.cell 9 rfl))
        case' rest25=>skip
        iterate 4 (refine tkN ?_;try simp only[PqL,Act.put])
        refine wpAnyH_ready (rs:= [4]) (by kernel_rfl) (by simp) ?_
        refine AllReadyH.cons (o:=_) rfl (fun K hK=>?_) AllReadyH.nil
        go_simp
        refine hK.out _ _ ?hS32 (fun hHeld=>?rest32)
        case hS32=>((try dsimp only);(exact g9.m.cell 9 rfl))
        case' rest32=>(clear hK K;try simp only[PqL,Act.put])
        refine wpAnyH_done (by kernel_rfl) ?_ _
        repeat (clear hHeld)
        clear zm
        clear qm_c0 qm_c1 qm_c2 qm_c3 qm_c4 qm_c5 qm_c6 qm_c7 qm_c8 qm_c9 qm_c10 qm_c11 qm_c12 qm_c13 qm_f
        clear qm
        go_wp2_with fail
        go_meet
        exact⟨by simp[rfirB,plB,IntKind.wrap_i64]<;> first | rfl | omega,by simp[rplcB],by simpa [rbodL] using g9⟩
      · have qm:=h0.m
        obtain⟨qm_c0,qm_c1,qm_c2,qm_c3,qm_c4,qm_c5,qm_c6,qm_c7,qm_c8,qm_c9,qm_c10,qm_c11,qm_c12,qm_c13⟩:= zbs qm
        have qm_f:=qm.frozen
        have zm:=qm.lt
        go_wp2_with fail
        refine wp_region_held_drew (S:=(fun w'=>(∀ qA:Addr,qA.block < (w1).heap.size→w'.cell? qA=(w1).cell? qA)∧ Below (w1).heap.size (w1) w')) (by kernel_rfl) ?hS33 (fun hHeld=>?rest33)
        case hS33=>((try dsimp only);(((try go_split_ands);refine zbn ?_;repeat' (first | with_reducible assumption | with_reducible exact Below.refl _ _ | with_reducible apply zbp | with_reducible apply zb3 | with_reducible apply zb2 | (with_reducible apply zbo;with_reducible assumption) | (with_reducible apply zb4;(first | exact Nat.le_refl _ | (simp;done) | omega))))))
        case' rest33=>skip
        iterate 2 (refine tkN ?_;try simp only[PqL,Act.put])
        refine tkH 3 ?_
        try simp only[PqL,Act.put]
        refine tkH 4 ?_
        try simp only[PqL,Act.put]
        refine tkH 5 ?_
        try simp only[PqL,Act.put]
        refine tkH 6 ?_
        try simp only[PqL,Act.put]
        refine tkH 7 ?_
        try simp only[PqL,Act.put]
        refine tkH 9 ?_
        try simp only[PqL,Act.put]
        refine tkH 10 ?_
        try simp only[PqL,Act.put]
        refine wpAnyH_ready (rs:= [2]) (by kernel_rfl) (by simp) ?_
        refine AllReadyH.cons (o:=_) rfl (fun K hK=>?_) AllReadyH.nil
        go_simp
        refine (zj9 _ 16 _).mono ?_
        rintro e w3 ⟨rfl,rfl⟩
        try dsimp only
        refine hK.out _ _ ?hS45 (fun hHeld=>?rest45)
        case hS45=>((try dsimp only);(((try go_split_ands);refine zbn ?_;repeat' (first | with_reducible assumption | with_reducible exact Below.refl _ _ | with_reducible apply zbp | with_reducible apply zb3 | with_reducible apply zb2 | (with_reducible apply zbo;with_reducible assumption) | (with_reducible apply zb4;(first | exact Nat.le_refl _ | (simp;done) | omega))))))
        case' rest45=>(clear hK K;try simp only[PqL,Act.put])
        refine tkH 8 ?_
        try simp only[PqL,Act.put]
        refine wpAnyH_ready (rs:= [11]) (by kernel_rfl) (by simp) ?_
        refine AllReadyH.cons (o:=_) rfl (fun K hK=>?_) AllReadyH.nil
        go_simp
        refine (zj9 _ 1 _).mono ?_
        rintro e w4 ⟨rfl,rfl⟩
        try dsimp only
        refine hK.out _ _ ?hS49 (fun hHeld=>?rest49)
        case hS49=>((try dsimp only);(((try go_split_ands);refine zbn ?_;repeat' (first | with_reducible assumption | with_reducible exact Below.refl _ _ | with_reducible apply zbp | with_reducible apply zb3 | with_reducible apply zb2 | (with_reducible apply zbo;with_reducible assumption) | (with_reducible apply zb4;(first | exact Nat.le_refl _ | (simp;done) | omega))))))
        case' rest49=>(clear hK K;try simp only[PqL,Act.put])
        refine wpAnyH_ready (rs:= [12]) (by kernel_rfl) (by simp) ?_
        refine AllReadyH.cons (o:=_) rfl (fun K hK=>?_) AllReadyH.nil
        go_simp
        refine hK.out _ _ ?hS52 (fun hHeld=>?rest52)
        case hS52=>((try dsimp only);(((try go_split_ands);refine zbn ?_;repeat' (first | with_reducible assumption | with_reducible exact Below.refl _ _ | with_reducible apply zbp | with_reducible apply zb3 | with_reducible apply zb2 | (with_reducible apply zbo;with_reducible assumption) | (with_reducible apply zb4;(first | exact Nat.le_refl _ | (simp;done) | omega))))))
        case' rest52=>(clear hK K;try simp only[PqL,Act.put])
        refine wpAnyH_ready (rs:= [13]) (by kernel_rfl) (by simp) ?_
        refine AllReadyH.cons (o:=_) rfl (fun K hK=>?_) AllReadyH.nil
        go_simp
        refine hK.out _ _ ?hS55 (fun hHeld=>?rest55)
        case hS55=>((try dsimp only);(((try go_split_ands);refine zbn ?_;repeat' (first | with_reducible assumption | with_reducible exact Below.refl _ _ | with_reducible apply zbp | with_reducible apply zb3 | with_reducible apply zb2 | (with_reducible apply zbo;with_reducible assumption) | (with_reducible apply zb4;(first | exact Nat.le_refl _ | (simp;done) | omega))))))
        case' rest55=>(clear hK K;try simp only[PqL,Act.put])
        refine wpAnyH_done (by kernel_rfl) ?_ _
        have hEnd:=hHeld.2
        repeat (clear hHeld)
        clear hEnd i1 i2 i2'
        have g0:=h0.drew
        go_wp2_with fail
        generalize w1.drew=W0 at *
        obtain⟨W9,hrun,g9,_⟩:= zke A n c 1 7 data g0.drew HN.out rfl (by omega) (hsW.out _ g0.drew.gr)
        refine wp_region_held_drew (S:=(fun w'=>w'.cell? ⟨w.heap.size,9,none⟩=some (.slice A n c))) (by kernel_rfl) ?hS57 (fun hHeld=>?rest57)
        case hS57=>((try dsimp only);(exact g0.m.cell 9 rfl))
        case' rest57=>skip
        iterate 4 (refine tkN ?_;try simp only[PqL,Act.put])
        refine wpAnyH_ready (rs:= [4]) (by kernel_rfl) (by simp) ?_
        refine AllReadyH.cons (o:=_) rfl (fun K hK=>?_) AllReadyH.nil
        go_simp
        refine hK.out _ _ ?hS64 (fun hHeld=>?rest64)
        case hS64=>((try dsimp only);(exact g9.m.cell 9 rfl))
        case' rest64=>(clear hK K;try simp only[PqL,Act.put])
        refine wpAnyH_done (by kernel_rfl) ?_ _
        repeat (clear hHeld)
        clear zm
        clear qm_c0 qm_c1 qm_c2 qm_c3 qm_c4 qm_c5 qm_c6 qm_c7 qm_c8 qm_c9 qm_c10 qm_c11 qm_c12 qm_c13 qm_f
        clear qm
        go_wp2_with fail
        go_meet
        exact⟨by simp[rfirB,plB,IntKind.wrap_i64]<;> first | rfl | omega,by simp[rplcB],by simpa [rbodL] using g9⟩
    · cases la
      · have qm:=h0.m
        obtain⟨qm_c0,qm_c1,qm_c2,qm_c3,qm_c4,qm_c5,qm_c6,qm_c7,qm_c8,qm_c9,qm_c10,qm_c11,qm_c12,qm_c13⟩:= zbs qm
        have qm_f:=qm.frozen
        have zm:=qm.lt
        go_wp2_with fail
        refine wp_region_held_drew (S:=(fun w'=>(∀ qA:Addr,qA.block < (w1).heap.size→w'.cell? qA=(w1).cell? qA)∧ Below (w1).heap.size (w1) w')) (by kernel_rfl) ?hS65 (fun hHeld=>?rest65)
        case hS65=>((try dsimp only);(((try go_split_ands);refine zbn ?_;repeat' (first | with_reducible assumption | with_reducible exact Below.refl _ _ | with_reducible apply zbp | with_reducible apply zb3 | with_reducible apply zb2 | (with_reducible apply zbo;with_reducible assumption) | (with_reducible apply zb4;(first | exact Nat.le_refl _ | (simp;done) | omega))))))
        case' rest65=>skip
        iterate 2 (refine tkN ?_;try simp only[PqL,Act.put])
        refine tkH 3 ?_
        try simp only[PqL,Act.put]
        refine tkH 4 ?_
        try simp only[PqL,Act.put]
        refine tkH 5 ?_
        try simp only[PqL,Act.put]
        refine tkH 6 ?_
        try simp only[PqL,Act.put]
        refine tkH 7 ?_
        try simp only[PqL,Act.put]
        refine tkH 9 ?_
        try simp only[PqL,Act.put]
        refine tkH 10 ?_
        try simp only[PqL,Act.put]
        refine wpAnyH_ready (rs:= [2]) (by kernel_rfl) (by simp) ?_
        refine AllReadyH.cons (o:=_) rfl (fun K hK=>?_) AllReadyH.nil
        go_simp
        refine (zj9 _ 16 _).mono ?_
        rintro e w3 ⟨rfl,rfl⟩
        try dsimp only
        refine hK.out _ _ ?hS77 (fun hHeld=>?rest77)
        case hS77=>((try dsimp only);(((try go_split_ands);refine zbn ?_;repeat' (first | with_reducible assumption | with_reducible exact Below.refl _ _ | with_reducible apply zbp | with_reducible apply zb3 | with_reducible apply zb2 | (with_reducible apply zbo;with_reducible assumption) | (with_reducible apply zb4;(first | exact Nat.le_refl _ | (simp;done) | omega))))))
        case' rest77=>(clear hK K;try simp only[PqL,Act.put])
        refine tkH 8 ?_
        try simp only[PqL,Act.put]
        refine wpAnyH_ready (rs:= [11]) (by kernel_rfl) (by simp) ?_
        refine AllReadyH.cons (o:=_) rfl (fun K hK=>?_) AllReadyH.nil
        go_simp
        refine (zj9 _ 1 _).mono ?_
        rintro e w4 ⟨rfl,rfl⟩
        try dsimp only
        refine hK.out _ _ ?hS81 (fun hHeld=>?rest81)
        case hS81=>((try dsimp only);(((try go_split_ands);refine zbn ?_;repeat' (first | with_reducible assumption | with_reducible exact Below.refl _ _ | with_reducible apply zbp | with_reducible apply zb3 | with_reducible apply zb2 | (with_reducible apply zbo;with_reducible assumption) | (with_reducible apply zb4;(first | exact Nat.le_refl _ | (simp;done) | omega))))))
        case' rest81=>(clear hK K;try simp only[PqL,Act.put])
        refine wpAnyH_ready (rs:= [12]) (by kernel_rfl) (by simp) ?_
        refine AllReadyH.cons (o:=_) rfl (fun K hK=>?_) AllReadyH.nil
        go_simp
        refine hK.out _ _ ?hS84 (fun hHeld=>?rest84)
        case hS84=>((try dsimp only);(((try go_split_ands);refine zbn ?_;repeat' (first | with_reducible assumption | with_reducible exact Below.refl _ _ | with_reducible apply zbp | with_reducible apply zb3 | with_reducible apply zb2 | (with_reducible apply zbo;with_reducible assumption) | (with_reducible apply zb4;(first | exact Nat.le_refl _ | (simp;done) | omega))))))
        case' rest84=>(clear hK K;try simp only[PqL,Act.put])
        refine wpAnyH_ready (rs:= [13]) (by kernel_rfl) (by simp) ?_
        refine AllReadyH.cons (o:=_) rfl (fun K hK=>?_) AllReadyH.nil
        go_simp
        refine hK.out _ _ ?hS87 (fun hHeld=>?rest87)
        case hS87=>((try dsimp only);(((try go_split_ands);refine zbn ?_;repeat' (first | with_reducible assumption | with_reducible exact Below.refl _ _ | with_reducible apply zbp | with_reducible apply zb3 | with_reducible apply zb2 | (with_reducible apply zbo;with_reducible assumption) | (with_reducible apply zb4;(first | exact Nat.le_refl _ | (simp;done) | omega))))))
        case' rest87=>(clear hK K;try simp only[PqL,Act.put])
        refine wpAnyH_done (by kernel_rfl) ?_ _
        have hEnd:=hHeld.2
        repeat (clear hHeld)
        clear hEnd i1 i2 i2'
        have g0:=h0.drew
        go_wp2_with fail
        generalize w1.drew=W0 at *
        obtain⟨W9,hrun,g9,_⟩:= zke A n c 1 7 data g0.drew HN.out rfl (by omega) (hsW.out _ g0.drew.gr)
        refine wp_region_held_drew (S:=(fun w'=>w'.cell? ⟨w.heap.size,9,none⟩=some (.slice A n c))) (by kernel_rfl) ?hS89 (fun hHeld=>?rest89)
        case hS89=>((try dsimp only);(exact g0.m.cell 9 rfl))
        case' rest89=>skip
        iterate 4 (refine tkN ?_;try simp only[PqL,Act.put])
        refine wpAnyH_ready (rs:= [4]) (by kernel_rfl) (by simp) ?_
        refine AllReadyH.cons (o:=_) rfl (fun K hK=>?_) AllReadyH.nil
        go_simp
        refine hK.out _ _ ?hS96 (fun hHeld=>?rest96)
        case hS96=>((try dsimp only);(exact g9.m.cell 9 rfl))
        case' rest96=>(clear hK K;try simp only[PqL,Act.put])
        refine wpAnyH_done (by kernel_rfl) ?_ _
        repeat (clear hHeld)
        clear zm
        clear qm_c0 qm_c1 qm_c2 qm_c3 qm_c4 qm_c5 qm_c6 qm_c7 qm_c8 qm_c9 qm_c10 qm_c11 qm_c12 qm_c13 qm_f
        clear qm
        go_wp2_with fail
        go_meet
        exact⟨by simp[rfirB,plB,IntKind.wrap_i64]<;> first | rfl | omega,by simp[rplcB],by simpa [rbodL] using g9⟩
      · have qm:=h0.m
        obtain⟨qm_c0,qm_c1,qm_c2,qm_c3,qm_c4,qm_c5,qm_c6,qm_c7,qm_c8,qm_c9,qm_c10,qm_c11,qm_c12,qm_c13⟩:= zbs qm
        have qm_f:=qm.frozen
        have zm:=qm.lt
        go_wp2_with fail
        refine wp_region_held_drew (S:=(fun w'=>(∀ qA:Addr,qA.block < (w1).heap.size→w'.cell? qA=(w1).cell? qA)∧ Below (w1).heap.size (w1) w')) (by kernel_rfl) ?hS97 (fun hHeld=>?rest97)
        case hS97=>((try dsimp only);(((try go_split_ands);refine zbn ?_;repeat' (first | with_reducible assumption | with_reducible exact Below.refl _ _ | with_reducible apply zbp | with_reducible apply zb3 | with_reducible apply zb2 | (with_reducible apply zbo;with_reducible assumption) | (with_reducible apply zb4;(first | exact Nat.le_refl _ | (simp;done) | omega))))))
        case' rest97=>skip
        iterate 2 (refine tkN ?_;try simp only[PqL,Act.put])
        refine tkH 3 ?_
        try simp only[PqL,Act.put]
        refine tkH 4 ?_
        try simp only[PqL,Act.put]
        refine tkH 5 ?_
        try simp only[PqL,Act.put]
        refine tkH 6 ?_
        try simp only[PqL,Act.put]
        refine tkH 7 ?_
        try simp only[PqL,Act.put]
        refine tkH 9 ?_
        try simp only[PqL,Act.put]
        refine tkH 10 ?_
        try simp only[PqL,Act.put]
        refine wpAnyH_ready (rs:= [2]) (by kernel_rfl) (by simp) ?_
        refine AllReadyH.cons (o:=_) rfl (fun K hK=>?_) AllReadyH.nil
        go_simp
        refine (zj9 _ 16 _).mono ?_
        rintro e w3 ⟨rfl,rfl⟩
        try dsimp only
        refine hK.out _ _ ?hS109 (fun hHeld=>?rest109)
        case hS109=>((try dsimp only);(((try go_split_ands);refine zbn ?_;repeat' (first | with_reducible assumption | with_reducible exact Below.refl _ _ | with_reducible apply zbp | with_reducible apply zb3 | with_reducible apply zb2 | (with_reducible apply zbo;with_reducible assumption) | (with_reducible apply zb4;(first | exact Nat.le_refl _ | (simp;done) | omega))))))
        case' rest109=>(clear hK K;try simp only[PqL,Act.put])
        refine tkH 8 ?_
        try simp only[PqL,Act.put]
        refine wpAnyH_ready (rs:= [11]) (by kernel_rfl) (by simp) ?_
        refine AllReadyH.cons (o:=_) rfl (fun K hK=>?_) AllReadyH.nil
        go_simp
        refine (zj9 _ 1 _).mono ?_
        rintro e w4 ⟨rfl,rfl⟩
        try dsimp only
        refine hK.out _ _ ?hS113 (fun hHeld=>?rest113)
        case hS113=>((try dsimp only);(((try go_split_ands);refine zbn ?_;repeat' (first | with_reducible assumption | with_reducible exact Below.refl _ _ | with_reducible apply zbp | with_reducible apply zb3 | with_reducible apply zb2 | (with_reducible apply zbo;with_reducible assumption) | (with_reducible apply zb4;(first | exact Nat.le_refl _ | (simp;done) | omega))))))
        case' rest113=>(clear hK K;try simp only[PqL,Act.put])
        refine wpAnyH_ready (rs:= [12]) (by kernel_rfl) (by simp) ?_
        refine AllReadyH.cons (o:=_) rfl (fun K hK=>?_) AllReadyH.nil
        go_simp
        refine hK.out _ _ ?hS116 (fun hHeld=>?rest116)
        case hS116=>((try dsimp only);(((try go_split_ands);refine zbn ?_;repeat' (first | with_reducible assumption | with_reducible exact Below.refl _ _ | with_reducible apply zbp | with_reducible apply zb3 | with_reducible apply zb2 | (with_reducible apply zbo;with_reducible assumption) | (with_reducible apply zb4;(first | exact Nat.le_refl _ | (simp;done) | omega))))))
        case' rest116=>(clear hK K;try simp only[PqL,Act.put])
        refine wpAnyH_ready (rs:= [13]) (by kernel_rfl) (by simp) ?_
        refine AllReadyH.cons (o:=_) rfl (fun K hK=>?_) AllReadyH.nil
        go_simp
        refine hK.out _ _ ?hS119 (fun hHeld=>?rest119)
        case hS119=>((try dsimp only);(((try go_split_ands);refine zbn ?_;repeat' (first | with_reducible assumption | with_reducible exact Below.refl _ _ | with_reducible apply zbp | with_reducible apply zb3 | with_reducible apply zb2 | (with_reducible apply zbo;with_reducible assumption) | (with_reducible apply zb4;(first | exact Nat.le_refl _ | (simp;done) | omega))))))
        case' rest119=>(clear hK K;try simp only[PqL,Act.put])
        refine wpAnyH_done (by kernel_rfl) ?_ _
        have hEnd:=hHeld.2
        repeat (clear hHeld)
        clear hEnd i1 i2 i2'
        have g0:=h0.drew
        go_wp2_with fail
        generalize w1.drew=W0 at *
        obtain⟨W9,hrun,g9,_⟩:= zke A n c 1 7 data g0.drew HN.out rfl (by omega) (hsW.out _ g0.drew.gr)
        refine wp_region_held_drew (S:=(fun w'=>w'.cell? ⟨w.heap.size,9,none⟩=some (.slice A n c))) (by kernel_rfl) ?hS121 (fun hHeld=>?rest121)
        case hS121=>((try dsimp only);(exact g0.m.cell 9 rfl))
        case' rest121=>skip
        iterate 4 (refine tkN ?_;try simp only[PqL,Act.put])
        refine wpAnyH_ready (rs:= [4]) (by kernel_rfl) (by simp) ?_
        refine AllReadyH.cons (o:=_) rfl (fun K hK=>?_) AllReadyH.nil
        go_simp
        refine hK.out _ _ ?hS128 (fun hHeld=>?rest128)
        case hS128=>((try dsimp only);(exact g9.m.cell 9 rfl))
        case' rest128=>(clear hK K;try simp only[PqL,Act.put])
        refine wpAnyH_done (by kernel_rfl) ?_ _
        repeat (clear hHeld)
        clear zm
        clear qm_c0 qm_c1 qm_c2 qm_c3 qm_c4 qm_c5 qm_c6 qm_c7 qm_c8 qm_c9 qm_c10 qm_c11 qm_c12 qm_c13 qm_f
        clear qm
        go_wp2_with fail
        go_meet
        exact⟨by simp[rfirB,plB,IntKind.wrap_i64]<;> first | rfl | omega,by simp[rplcB],by simpa [rbodL] using g9⟩
  · cases cr
    · cases sz
      · have qm:=h0.m
        obtain⟨qm_c0,qm_c1,qm_c2,qm_c3,qm_c4,qm_c5,qm_c6,qm_c7,qm_c8,qm_c9,qm_c10,qm_c11,qm_c12,qm_c13⟩:= zbs qm
        have qm_f:=qm.frozen
        have zm:=qm.lt
        go_wp2_with fail
        refine wp_region_held_drew (S:=(fun w'=>(∀ qA:Addr,qA.block < (w1).heap.size→w'.cell? qA=(w1).cell? qA)∧ Below (w1).heap.size (w1) w')) (by kernel_rfl) ?hS129 (fun hHeld=>?rest129)
        case hS129=>((try dsimp only);(((try go_split_ands);refine zbn ?_;repeat' (first | with_reducible assumption | with_reducible exact Below.refl _ _ | with_reducible apply zbp | with_reducible apply zb3 | with_reducible apply zb2 | (with_reducible apply zbo;with_reducible assumption) | (with_reducible apply zb4;(first | exact Nat.le_refl _ | (simp;done) | omega))))))
        case' rest129=>skip
        iterate 2 (refine tkN ?_;try simp only[PqL,Act.put])
        refine tkH 4 ?_
        try simp only[PqL,Act.put]
        refine tkH 5 ?_
        try simp only[PqL,Act.put]
        refine wpAnyH_ready (rs:= [2]) (by kernel_rfl) (by simp) ?_
        refine AllReadyH.cons (o:=_) rfl (fun K hK=>?_) AllReadyH.nil
        go_simp
        refine (zj9 _ 4 _).mono ?_
        rintro e w3 ⟨rfl,rfl⟩
        try dsimp only
        refine hK.out _ _ ?hS136 (fun hHeld=>?rest136)
        case hS136=>((try dsimp only);(((try go_split_ands);refine zbn ?_;repeat' (first | with_reducible assumption | with_reducible exact Below.refl _ _ | with_reducible apply zbp | with_reducible apply zb3 | with_reducible apply zb2 | (with_reducible apply zbo;with_reducible assumption) | (with_reducible apply zb4;(first | exact Nat.le_refl _ | (simp;done) | omega))))))
        case' rest136=>(clear hK K;try simp only[PqL,Act.put])
        refine tkH 3 ?_
        try simp only[PqL,Act.put]
        refine wpAnyH_ready (rs:= [6]) (by kernel_rfl) (by simp) ?_
        refine AllReadyH.cons (o:=_) rfl (fun K hK=>?_) AllReadyH.nil
        go_simp
        refine (zj9 _ 2 _).mono ?_
        rintro e w4 ⟨rfl,rfl⟩
        try dsimp only
        refine hK.out _ _ ?hS140 (fun hHeld=>?rest140)
        case hS140=>((try dsimp only);(((try go_split_ands);refine zbn ?_;repeat' (first | with_reducible assumption | with_reducible exact Below.refl _ _ | with_reducible apply zbp | with_reducible apply zb3 | with_reducible apply zb2 | (with_reducible apply zbo;with_reducible assumption) | (with_reducible apply zb4;(first | exact Nat.le_refl _ | (simp;done) | omega))))))
        case' rest140=>(clear hK K;try simp only[PqL,Act.put])
        refine wpAnyH_ready (rs:= [7]) (by kernel_rfl) (by simp) ?_
        refine AllReadyH.cons (o:=_) rfl (fun K hK=>?_) AllReadyH.nil
        go_simp
        refine hK.out _ _ ?hS143 (fun hHeld=>?rest143)
        case hS143=>((try dsimp only);(((try go_split_ands);refine zbn ?_;repeat' (first | with_reducible assumption | with_reducible exact Below.refl _ _ | with_reducible apply zbp | with_reducible apply zb3 | with_reducible apply zb2 | (with_reducible apply zbo;with_reducible assumption) | (with_reducible apply zb4;(first | exact Nat.le_refl _ | (simp;done) | omega))))))
        case' rest143=>(clear hK K;try simp only[PqL,Act.put])
        refine wpAnyH_ready (rs:= [8]) (by kernel_rfl) (by simp) ?_
        refine AllReadyH.cons (o:=_) rfl (fun K hK=>?_) AllReadyH.nil
        go_simp
        refine hK.out _ _ ?hS146 (fun hHeld=>?rest146)
        case hS146=>((try dsimp only);(((try go_split_ands);refine zbn ?_;repeat' (first | with_reducible assumption | with_reducible exact Below.refl _ _ | with_reducible apply zbp | with_reducible apply zb3 | with_reducible apply zb2 | (with_reducible apply zbo;with_reducible assumption) | (with_reducible apply zb4;(first | exact Nat.le_refl _ | (simp;done) | omega))))))
        case' rest146=>(clear hK K;try simp only[PqL,Act.put])
        refine wpAnyH_done (by kernel_rfl) ?_ _
        have hEnd:=hHeld.2
        repeat (clear hHeld)
        clear hEnd
        have g0:=h0.drew
        go_wp2_with fail
        refine (zkd 4 4 size g0 (by omega) (by omega)).mono ?_
        rintro e W1 ⟨rfl,g1⟩
        clear zm
        clear qm_c0 qm_c1 qm_c2 qm_c3 qm_c4 qm_c5 qm_c6 qm_c7 qm_c8 qm_c9 qm_c10 qm_c11 qm_c12 qm_c13 qm_f
        clear qm
        have qm:=g1.m
        obtain⟨qm_c0,qm_c1,qm_c2,qm_c3,qm_c4,qm_c5,qm_c6,qm_c7,qm_c8,qm_c9,qm_c10,qm_c11,qm_c12,qm_c13⟩:= zbs qm
        have qm_f:=qm.frozen
        have zm:=qm.lt
        go_wp2_with fail
        go_meet
        exact⟨by simp[rfirB,plB]<;> first | rfl | omega,by simp[rplcB],by simpa [rbodL] using g1⟩
      · have qm:=h0.m
        obtain⟨qm_c0,qm_c1,qm_c2,qm_c3,qm_c4,qm_c5,qm_c6,qm_c7,qm_c8,qm_c9,qm_c10,qm_c11,qm_c12,qm_c13⟩:= zbs qm
        have qm_f:=qm.frozen
        have zm:=qm.lt
        go_wp2_with fail
        refine wp_region_held_drew (S:=(fun w'=>(∀ qA:Addr,qA.block < (w1).heap.size→w'.cell? qA=(w1).cell? qA)∧ Below (w1).heap.size (w1) w')) (by kernel_rfl) ?hS148 (fun hHeld=>?rest148)
        case hS148=>((try dsimp only);(((try go_split_ands);refine zbn ?_;repeat' (first | with_reducible assumption | with_reducible exact Below.refl _ _ | with_reducible apply zbp | with_reducible apply zb3 | with_reducible apply zb2 | (with_reducible apply zbo;with_reducible assumption) | (with_reducible apply zb4;(first | exact Nat.le_refl _ | (simp;done) | omega))))))
        case' rest148=>skip
        iterate 2 (refine tkN ?_;try simp only[PqL,Act.put])
        refine tkH 4 ?_
        try simp only[PqL,Act.put]
        refine tkH 5 ?_
        try simp only[PqL,Act.put]
        refine wpAnyH_ready (rs:= [2]) (by kernel_rfl) (by simp) ?_
        refine AllReadyH.cons (o:=_) rfl (fun K hK=>?_) AllReadyH.nil
        go_simp
        refine (zj9 _ 4 _).mono ?_
        rintro e w3 ⟨rfl,rfl⟩
        try dsimp only
        refine hK.out _ _ ?hS155 (fun hHeld=>?rest155)
        case hS155=>((try dsimp only);(((try go_split_ands);refine zbn ?_;repeat' (first | with_reducible assumption | with_reducible exact Below.refl _ _ | with_reducible apply zbp | with_reducible apply zb3 | with_reducible apply zb2 | (with_reducible apply zbo;with_reducible assumption) | (with_reducible apply zb4;(first | exact Nat.le_refl _ | (simp;done) | omega))))))
        case' rest155=>(clear hK K;try simp only[PqL,Act.put])
        refine tkH 3 ?_
        try simp only[PqL,Act.put]
        refine wpAnyH_ready (rs:= [6]) (by kernel_rfl) (by simp) ?_
        refine AllReadyH.cons (o:=_) rfl (fun K hK=>?_) AllReadyH.nil
        go_simp
        refine (zj9 _ 2 _).mono ?_
        rintro e w4 ⟨rfl,rfl⟩
        try dsimp only
        refine hK.out _ _ ?hS159 (fun hHeld=>?rest159)
        case hS159=>((try dsimp only);(((try go_split_ands);refine zbn ?_;repeat' (first | with_reducible assumption | with_reducible exact Below.refl _ _ | with_reducible apply zbp | with_reducible apply zb3 | with_reducible apply zb2 | (with_reducible apply zbo;with_reducible assumption) | (with_reducible apply zb4;(first | exact Nat.le_refl _ | (simp;done) | omega))))))
        case' rest159=>(clear hK K;try simp only[PqL,Act.put])
        refine wpAnyH_ready (rs:= [7]) (by kernel_rfl) (by simp) ?_
        refine AllReadyH.cons (o:=_) rfl (fun K hK=>?_) AllReadyH.nil
        go_simp
        refine hK.out _ _ ?hS162 (fun hHeld=>?rest162)
        case hS162=>((try dsimp only);(((try go_split_ands);refine zbn ?_;repeat' (first | with_reducible assumption | with_reducible exact Below.refl _ _ | with_reducible apply zbp | with_reducible apply zb3 | with_reducible apply zb2 | (with_reducible apply zbo;with_reducible assumption) | (with_reducible apply zb4;(first | exact Nat.le_refl _ | (simp;done) | omega))))))
        case' rest162=>(clear hK K;try simp only[PqL,Act.put])
        refine wpAnyH_ready (rs:= [8]) (by kernel_rfl) (by simp) ?_
        refine AllReadyH.cons (o:=_) rfl (fun K hK=>?_) AllReadyH.nil
        go_simp
        refine hK.out _ _ ?hS165 (fun hHeld=>?rest165)
        case hS165=>((try dsimp only);(((try go_split_ands);refine zbn ?_;repeat' (first | with_reducible assumption | with_reducible exact Below.refl _ _ | with_reducible apply zbp | with_reducible apply zb3 | with_reducible apply zb2 | (with_reducible apply zbo;with_reducible assumption) | (with_reducible apply zb4;(first | exact Nat.le_refl _ | (simp;done) | omega))))))
        case' rest165=>(clear hK K;try simp only[PqL,Act.put])
        refine wpAnyH_done (by kernel_rfl) ?_ _
        have hEnd:=hHeld.2
        repeat (clear hHeld)
        clear hEnd
        have g0:=h0.drew
        go_wp2_with fail
        refine (zkd 4 4 size g0 (by omega) (by omega)).mono ?_
        rintro e W1 ⟨rfl,g1⟩
        clear zm
        clear qm_c0 qm_c1 qm_c2 qm_c3 qm_c4 qm_c5 qm_c6 qm_c7 qm_c8 qm_c9 qm_c10 qm_c11 qm_c12 qm_c13 qm_f
        clear qm
        have qm:=g1.m
        obtain⟨qm_c0,qm_c1,qm_c2,qm_c3,qm_c4,qm_c5,qm_c6,qm_c7,qm_c8,qm_c9,qm_c10,qm_c11,qm_c12,qm_c13⟩:= zbs qm
        have qm_f:=qm.frozen
        have zm:=qm.lt
        go_wp2_with fail
        go_meet
        exact⟨by simp[rfirB,plB]<;> first | rfl | omega,by simp[rplcB],by simpa [rbodL] using g1⟩
    · cases sz
      · have qm:=h0.m
        obtain⟨qm_c0,qm_c1,qm_c2,qm_c3,qm_c4,qm_c5,qm_c6,qm_c7,qm_c8,qm_c9,qm_c10,qm_c11,qm_c12,qm_c13⟩:= zbs qm
        have qm_f:=qm.frozen
        have zm:=qm.lt
        go_wp2_with fail
        refine wp_region_held_drew (S:=(fun w'=>(∀ qA:Addr,qA.block < (w1).heap.size→w'.cell? qA=(w1).cell? qA)∧ Below (w1).heap.size (w1) w')) (by kernel_rfl) ?hS167 (fun hHeld=>?rest167)
        case hS167=>((try dsimp only);(((try go_split_ands);refine zbn ?_;repeat' (first | with_reducible assumption | with_reducible exact Below.refl _ _ | with_reducible apply zbp | with_reducible apply zb3 | with_reducible apply zb2 | (with_reducible apply zbo;with_reducible assumption) | (with_reducible apply zb4;(first | exact Nat.le_refl _ | (simp;done) | omega))))))
        case' rest167=>skip
        iterate 2 (refine tkN ?_;try simp only[PqL,Act.put])
        refine tkH 4 ?_
        try simp only[PqL,Act.put]
        refine tkH 5 ?_
        try simp only[PqL,Act.put]
        refine wpAnyH_ready (rs:= [2]) (by kernel_rfl) (by simp) ?_
        refine AllReadyH.cons (o:=_) rfl (fun K hK=>?_) AllReadyH.nil
        go_simp
        refine (zj9 _ 4 _).mono ?_
        rintro e w3 ⟨rfl,rfl⟩
        try dsimp only
        refine hK.out _ _ ?hS174 (fun hHeld=>?rest174)
        case hS174=>((try dsimp only);(((try go_split_ands);refine zbn ?_;repeat' (first | with_reducible assumption | with_reducible exact Below.refl _ _ | with_reducible apply zbp | with_reducible apply zb3 | with_reducible apply zb2 | (with_reducible apply zbo;with_reducible assumption) | (with_reducible apply zb4;(first | exact Nat.le_refl _ | (simp;done) | omega))))))
        case' rest174=>(clear hK K;try simp only[PqL,Act.put])
        refine tkH 3 ?_
        try simp only[PqL,Act.put]
        refine wpAnyH_ready (rs:= [6]) (by kernel_rfl) (by simp) ?_
        refine AllReadyH.cons (o:=_) rfl (fun K hK=>?_) AllReadyH.nil
        go_simp
        refine (zj9 _ 2 _).mono ?_
        rintro e w4 ⟨rfl,rfl⟩
        try dsimp only
        refine hK.out _ _ ?hS178 (fun hHeld=>?rest178)
        case hS178=>((try dsimp only);(((try go_split_ands);refine zbn ?_;repeat' (first | with_reducible assumption | with_reducible exact Below.refl _ _ | with_reducible apply zbp | with_reducible apply zb3 | with_reducible apply zb2 | (with_reducible apply zbo;with_reducible assumption) | (with_reducible apply zb4;(first | exact Nat.le_refl _ | (simp;done) | omega))))))
        case' rest178=>(clear hK K;try simp only[PqL,Act.put])
        refine wpAnyH_ready (rs:= [7]) (by kernel_rfl) (by simp) ?_
        refine AllReadyH.cons (o:=_) rfl (fun K hK=>?_) AllReadyH.nil
        go_simp
        refine hK.out _ _ ?hS181 (fun hHeld=>?rest181)
        case hS181=>((try dsimp only);(((try go_split_ands);refine zbn ?_;repeat' (first | with_reducible assumption | with_reducible exact Below.refl _ _ | with_reducible apply zbp | with_reducible apply zb3 | with_reducible apply zb2 | (with_reducible apply zbo;with_reducible assumption) | (with_reducible apply zb4;(first | exact Nat.le_refl _ | (simp;done) | omega))))))
        case' rest181=>(clear hK K;try simp only[PqL,Act.put])
        refine wpAnyH_ready (rs:= [8]) (by kernel_rfl) (by simp) ?_
        refine AllReadyH.cons (o:=_) rfl (fun K hK=>?_) AllReadyH.nil
        go_simp
        refine hK.out _ _ ?hS184 (fun hHeld=>?rest184)
        case hS184=>((try dsimp only);(((try go_split_ands);refine zbn ?_;repeat' (first | with_reducible assumption | with_reducible exact Below.refl _ _ | with_reducible apply zbp | with_reducible apply zb3 | with_reducible apply zb2 | (with_reducible apply zbo;with_reducible assumption) | (with_reducible apply zb4;(first | exact Nat.le_refl _ | (simp;done) | omega))))))
        case' rest184=>(clear hK K;try simp only[PqL,Act.put])
        refine wpAnyH_done (by kernel_rfl) ?_ _
        have hEnd:=hHeld.2
        repeat (clear hHeld)
        clear hEnd
        have g0:=h0.drew
        go_wp2_with fail
        refine (zkd 4 4 size g0 (by omega) (by omega)).mono ?_
        rintro e W1 ⟨rfl,g1⟩
        clear zm
        clear qm_c0 qm_c1 qm_c2 qm_c3 qm_c4 qm_c5 qm_c6 qm_c7 qm_c8 qm_c9 qm_c10 qm_c11 qm_c12 qm_c13 qm_f
        clear qm
        have qm:=g1.m
        obtain⟨qm_c0,qm_c1,qm_c2,qm_c3,qm_c4,qm_c5,qm_c6,qm_c7,qm_c8,qm_c9,qm_c10,qm_c11,qm_c12,qm_c13⟩:= zbs qm
        have qm_f:=qm.frozen
        have zm:=qm.lt
        go_wp2_with fail
        go_meet
        exact⟨by simp[rfirB,plB]<;> first | rfl | omega,by simp[rplcB],by simpa [rbodL] using g1⟩
      · have qm:=h0.m
        obtain⟨qm_c0,qm_c1,qm_c2,qm_c3,qm_c4,qm_c5,qm_c6,qm_c7,qm_c8,qm_c9,qm_c10,qm_c11,qm_c12,qm_c13⟩:= zbs qm
        have qm_f:=qm.frozen
        have zm:=qm.lt
        go_wp2_with fail
        refine wp_region_held_drew (S:=(fun w'=>(∀ qA:Addr,qA.block < (w1).heap.size→w'.cell? qA=(w1).cell? qA)∧ Below (w1).heap.size (w1) w')) (by kernel_rfl) ?hS186 (fun hHeld=>?rest186)
        case hS186=>((try dsimp only);(((try go_split_ands);refine zbn ?_;repeat' (first | with_reducible assumption | with_reducible exact Below.refl _ _ | with_reducible apply zbp | with_reducible apply zb3 | with_reducible apply zb2 | (with_reducible apply zbo;with_reducible assumption) | (with_reducible apply zb4;(first | exact Nat.le_refl _ | (simp;done) | omega))))))
        case' rest186=>skip
        iterate 2 (refine tkN ?_;try simp only[PqL,Act.put])
        refine tkH 4 ?_
        try simp only[PqL,Act.put]
        refine tkH 5 ?_
        try simp only[PqL,Act.put]
        refine wpAnyH_ready (rs:= [2]) (by kernel_rfl) (by simp) ?_
        refine AllReadyH.cons (o:=_) rfl (fun K hK=>?_) AllReadyH.nil
        go_simp
        refine (zj9 _ 4 _).mono ?_
        rintro e w3 ⟨rfl,rfl⟩
        try dsimp only
        refine hK.out _ _ ?hS193 (fun hHeld=>?rest193)
        case hS193=>((try dsimp only);(((try go_split_ands);refine zbn ?_;repeat' (first | with_reducible assumption | with_reducible exact Below.refl _ _ | with_reducible apply zbp | with_reducible apply zb3 | with_reducible apply zb2 | (with_reducible apply zbo;with_reducible assumption) | (with_reducible apply zb4;(first | exact Nat.le_refl _ | (simp;done) | omega))))))
        case' rest193=>(clear hK K;try simp only[PqL,Act.put])
        refine tkH 3 ?_
        try simp only[PqL,Act.put]
        refine wpAnyH_ready (rs:= [6]) (by kernel_rfl) (by simp) ?_
        refine AllReadyH.cons (o:=_) rfl (fun K hK=>?_) AllReadyH.nil
        go_simp
        refine (zj9 _ 2 _).mono ?_
        rintro e w4 ⟨rfl,rfl⟩
        try dsimp only
        refine hK.out _ _ ?hS197 (fun hHeld=>?rest197)
        case hS197=>((try dsimp only);(((try go_split_ands);refine zbn ?_;repeat' (first | with_reducible assumption | with_reducible exact Below.refl _ _ | with_reducible apply zbp | with_reducible apply zb3 | with_reducible apply zb2 | (with_reducible apply zbo;with_reducible assumption) | (with_reducible apply zb4;(first | exact Nat.le_refl _ | (simp;done) | omega))))))
        case' rest197=>(clear hK K;try simp only[PqL,Act.put])
        refine wpAnyH_ready (rs:= [7]) (by kernel_rfl) (by simp) ?_
        refine AllReadyH.cons (o:=_) rfl (fun K hK=>?_) AllReadyH.nil
        go_simp
        refine hK.out _ _ ?hS200 (fun hHeld=>?rest200)
        case hS200=>((try dsimp only);(((try go_split_ands);refine zbn ?_;repeat' (first | with_reducible assumption | with_reducible exact Below.refl _ _ | with_reducible apply zbp | with_reducible apply zb3 | with_reducible apply zb2 | (with_reducible apply zbo;with_reducible assumption) | (with_reducible apply zb4;(first | exact Nat.le_refl _ | (simp;done) | omega))))))
        case' rest200=>(clear hK K;try simp only[PqL,Act.put])
        refine wpAnyH_ready (rs:= [8]) (by kernel_rfl) (by simp) ?_
        refine AllReadyH.cons (o:=_) rfl (fun K hK=>?_) AllReadyH.nil
        go_simp
        refine hK.out _ _ ?hS203 (fun hHeld=>?rest203)
        case hS203=>((try dsimp only);(((try go_split_ands);refine zbn ?_;repeat' (first | with_reducible assumption | with_reducible exact Below.refl _ _ | with_reducible apply zbp | with_reducible apply zb3 | with_reducible apply zb2 | (with_reducible apply zbo;with_reducible assumption) | (with_reducible apply zb4;(first | exact Nat.le_refl _ | (simp;done) | omega))))))
        case' rest203=>(clear hK K;try simp only[PqL,Act.put])
        refine wpAnyH_done (by kernel_rfl) ?_ _
        have hEnd:=hHeld.2
        repeat (clear hHeld)
        clear hEnd
        have g0:=h0.drew
        go_wp2_with fail
        refine (zkd 4 4 size g0 (by omega) (by omega)).mono ?_
        rintro e W1 ⟨rfl,g1⟩
        clear zm
        clear qm_c0 qm_c1 qm_c2 qm_c3 qm_c4 qm_c5 qm_c6 qm_c7 qm_c8 qm_c9 qm_c10 qm_c11 qm_c12 qm_c13 qm_f
        clear qm
        have qm:=g1.m
        obtain⟨qm_c0,qm_c1,qm_c2,qm_c3,qm_c4,qm_c5,qm_c6,qm_c7,qm_c8,qm_c9,qm_c10,qm_c11,qm_c12,qm_c13⟩:= zbs qm
        have qm_f:=qm.frozen
        have zm:=qm.lt
        go_wp2_with fail
        go_meet
        exact⟨by simp[rfirB,plB]<;> first | rfl | omega,by simp[rplcB],by simpa [rbodL] using g1⟩
  · have qm:=h0.m
    obtain⟨qm_c0,qm_c1,qm_c2,qm_c3,qm_c4,qm_c5,qm_c6,qm_c7,qm_c8,qm_c9,qm_c10,qm_c11,qm_c12,qm_c13⟩:= zbs qm
    have qm_f:=qm.frozen
    have zm:=qm.lt
    go_wp2_with fail
    refine (zkl ix sub sq bl em size code sum n c tg la cr sz A data (w.heap.size+1) (w.heap.size+1) _ hu3 D2 C2 E2 HN.out hn7 (hsW.out _ h0.gr) h0.b hlt1).mono ?_
    rintro e W1 ⟨rfl,hb,hg⟩
    clear zm
    clear qm_c0 qm_c1 qm_c2 qm_c3 qm_c4 qm_c5 qm_c6 qm_c7 qm_c8 qm_c9 qm_c10 qm_c11 qm_c12 qm_c13 qm_f
    clear qm
    have g1:=h0.step hb (by simp[za7,cpL,z8];try omega) hg
    have qm:=g1.m
    obtain⟨qm_c0,qm_c1,qm_c2,qm_c3,qm_c4,qm_c5,qm_c6,qm_c7,qm_c8,qm_c9,qm_c10,qm_c11,qm_c12,qm_c13⟩:= zbs qm
    have qm_f:=qm.frozen
    have zm:=qm.lt
    go_wp2_with fail
    go_meet
    exact⟨by simp[rfirB,plB]<;> first | rfl | omega,by simp[rplcB],by simpa [rbodL] using g1⟩
  · have qm:=h0.m
    obtain⟨qm_c0,qm_c1,qm_c2,qm_c3,qm_c4,qm_c5,qm_c6,qm_c7,qm_c8,qm_c9,qm_c10,qm_c11,qm_c12,qm_c13⟩:= zbs qm
    have qm_f:=qm.frozen
    have zm:=qm.lt
    go_wp2_with fail
    refine (zkv ix sub sq bl em size code sum n c tg la cr sz A data (w.heap.size+1) (w.heap.size+1) _ hu3 D2 C2 E2 HN.out hn7 (hsW.out _ h0.gr) h0.b hlt1).mono ?_
    rintro e W1 ⟨rfl,hb,hg⟩
    clear zm
    clear qm_c0 qm_c1 qm_c2 qm_c3 qm_c4 qm_c5 qm_c6 qm_c7 qm_c8 qm_c9 qm_c10 qm_c11 qm_c12 qm_c13 qm_f
    clear qm
    have g1:=h0.step hb (by rw[za9 _ _ _ (by have:=HN.out;simp[z8];omega)];rfl) hg
    have qm:=g1.m
    obtain⟨qm_c0,qm_c1,qm_c2,qm_c3,qm_c4,qm_c5,qm_c6,qm_c7,qm_c8,qm_c9,qm_c10,qm_c11,qm_c12,qm_c13⟩:= zbs qm
    have qm_f:=qm.frozen
    have zm:=qm.lt
    go_wp2_with fail
    go_meet
    exact⟨by simp[rfirB,plB]<;> first | rfl | omega,by simp[rplcB],by simpa [rbodL] using g1⟩
 case rest=>
  obtain⟨rfl,rfl,h1⟩:= hcut
  clear h0 hlt1
  obtain⟨x,hx⟩:∃ x,x=rfirB kind n tg la cr sz sq em:=⟨_,rfl⟩
  obtain⟨l,hl⟩:∃ l,l=rbodL kind n size code sq bl sum data:=⟨_,rfl⟩
  obtain⟨pb,hpb⟩:∃ b,b=rplcB kind:=⟨_,rfl⟩
  rw[← hl] at h1
  rw[← hx,← hpb]
  have HLL:Hid (rlaidL kind n ix sub size code sq bl em sum tg la cr sz data=if pb=true then (putL (l.set 0 (UInt8.ofNat x)) 1 2 ix).set 3 (UInt8.ofNat sub) else l.set 0 (UInt8.ofNat x)):= zak (by rw[hx,hl,hpb];rfl)
  clear hx hl hpb
  obtain⟨v0,k0,j0⟩:= h1.b.at8 0 (by omega)
  have h2:=h1.byte 0 (UInt8.ofNat x)
  rw[← zkb] at h2
  have qm:=h1.m
  obtain⟨qm_c0,qm_c1,qm_c2,qm_c3,qm_c4,qm_c5,qm_c6,qm_c7,qm_c8,qm_c9,qm_c10,qm_c11,qm_c12,qm_c13⟩:= zbs qm
  have qm_f:=qm.frozen
  have zm:=qm.lt
  cases pb
  · go_wp2_with fail
    go_ret
    exact⟨_,rfl,by rw[HLL.out];exact⟨h2.b.hn,h2.b.own.mono (by omega)⟩,zb0 hbw1.out h2.gr (by omega) hbw1.out.size⟩
  · go_wp2_with fail
    refine (zkd 1 2 ix h2 (by omega) (by omega)).mono ?_
    rintro e W1 ⟨rfl,g1⟩
    clear zm
    clear qm_c0 qm_c1 qm_c2 qm_c3 qm_c4 qm_c5 qm_c6 qm_c7 qm_c8 qm_c9 qm_c10 qm_c11 qm_c12 qm_c13 qm_f
    clear qm
    have qm:=g1.m
    obtain⟨qm_c0,qm_c1,qm_c2,qm_c3,qm_c4,qm_c5,qm_c6,qm_c7,qm_c8,qm_c9,qm_c10,qm_c11,qm_c12,qm_c13⟩:= zbs qm
    have qm_f:=qm.frozen
    have zm:=qm.lt
    obtain⟨v3,k3,j3⟩:= g1.b.at8 3 (by omega)
    have g2:=g1.byte 3 (UInt8.ofNat sub)
    rw[← zkj (show sub < 256 by omega)] at g2
    go_wp2_with fail
    go_ret
    exact⟨_,rfl,by rw[HLL.out];show zb7 _ _ _ _ _ ((putL (l.set 0 (UInt8.ofNat x)) 1 2 ix).set 3 (UInt8.ofNat sub));exact⟨g2.b.hn,g2.b.own.mono (by omega)⟩,zb0 hbw1.out g2.gr (by omega) hbw1.out.size⟩
end
end Go.Proofs.Ythdbckbpldlkeaa
