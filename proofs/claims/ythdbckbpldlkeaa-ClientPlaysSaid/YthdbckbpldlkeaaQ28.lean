/- None -/
import Derived.Test.YthdbckbpldlkeaaQ27
namespace Go.Proofs.Ythdbckbpldlkeaa
set_option linter.unusedVariables false
set_option linter.unusedSimpArgs false
set_option linter.unnecessarySimpa false
section
open Go.RowKit
set_option maxRecDepth 100000
set_option maxHeartbeats 16000000
theorem zkw (kind:Int) (ix sub sq bl em size code sum n c:Nat) (tg la cr sz:Bool) (A:Option Addr) (data:List UInt8) (w:World) (k1:1≤kind) (k2:kind≤21) (hu1:size≤4294967295) (hu2:code≤4294967295) (hu3:sum≤65535)
 (A2:ix≤65535) (B2:sub≤255) (C2:sq≤127) (D2:bl≤127) (E2:em≤7) (hn:n=data.length) (hn7:n≤7) (hn4:kind=2∨kind=14→n≤4) (hs:Sl w A (data.map bv)) (hg:kind=1∨kind=2∨kind=3∨kind=4∨kind=5) :
 Calls Try.prog 85 #[.agg #[.int .i64 kind,.int .i64 (ix:Nat),.int .i64 (sub:Nat),.bool tg,.bool la,.bool cr,.bool sz,.int .u32 (size:Nat),.int .u32 (code:Nat),.slice A n c,.int .i64 (sq:Nat),.int .i64 (bl:Nat),.int .i64 (em:Nat),.int .u16 (sum:Nat)]] w (LaidR w (rlaidL kind n ix sub size code sq bl em sum tg la cr sz data)):= by
 have q0:=zbu w 72 #[.int .i64 kind,.int .i64 (ix:Nat),.int .i64 (sub:Nat),.bool tg,.bool la,.bool cr,.bool sz,.int .u32 (size:Nat),.int .u32 (code:Nat),.slice A n c,.int .i64 (sq:Nat),.int .i64 (bl:Nat),.int .i64 (em:Nat),.int .u16 (sum:Nat)]
 have hbw:=zbp (Below.refl w.heap.size w) (.cells #[.int .i64 kind,.int .i64 (ix:Nat),.int .i64 (sub:Nat),.bool tg,.bool la,.bool cr,.bool sz,.int .u32 (size:Nat),.int .u32 (code:Nat),.slice A n c,.int .i64 (sq:Nat),.int .i64 (bl:Nat),.int .i64 (em:Nat),.int .u16 (sum:Nat)] 72)
 have HG:=zak hg
 clear hg
 have HN:=zak hn
 have H4:=zak hn4
 clear hn hn4
 go_enter Try.func85,Try.ntmps85
 go_upto_block 0 with (at_make;refine zb9 _ rfl _ _ rfl _ _ _ _ 8 8 rfl rfl rfl (by omega) (by omega) (by omega) (w.heap.size+1) (by simp) ?_;intro w1 hO1 hlt1 hb1;have c0:=(Blk.below q0 hb1 (by omega)).cell 0 rfl)
 have h0:Rt w1 w1 w.heap.size (w.heap.size+1) (w.heap.size+1) z8 #[.int .i64 kind,.int .i64 (ix:Nat),.int .i64 (sub:Nat),.bool tg,.bool la,.bool cr,.bool sz,.int .u32 (size:Nat),.int .u32 (code:Nat),.slice A n c,.int .i64 (sq:Nat),.int .i64 (bl:Nat),.int .i64 (em:Nat),.int .u16 (sum:Nat)]:=
  ⟨q0.below hb1 (by omega),hO1,by omega,World.grownBy.refl _ _,rfl⟩
 have hs1:Hid (Sl w1 A (data.map bv)):= zak (hs.below (hbw.trans (hb1.mono (by omega))))
 have hbw1:Hid (Below w.heap.size w w1):= zak (hbw.trans (hb1.mono (by omega)))
 have hsW:Hid (∀ W,w1.grownBy W (some (w.heap.size+1))→ Sl W A (data.map bv)):= zak (fun W hg=>by
  intro j u hu
  obtain⟨ad,e,hc⟩:= hs j u hu
  have hlt:=zal hc
  refine⟨ad,e,?_⟩
  obtain⟨_,_,e',hc'⟩:∃ x y:Unit,A=some ad∧w1.cell? (ad.add j)=some u:=⟨(),(),e,(hbw1.out.cell hlt).trans hc⟩
  rw[World.cell?_of_block (hg.block _ (zal hc') (by intro e2;injection e2 with e2;omega))]
  exact hc')
 clear q0 hbw hs hO1 hb1 c0
 go_cut [4,5] (fun s4 s5 wx=>s4= .int .i64 ((rfirB kind n tg la cr sz sq em:Nat):Int)∧ s5= .bool (rplcB kind)∧ Rt w1 wx w.heap.size (w.heap.size+1) (w.heap.size+1) (rbodL kind n size code sq bl sum data) #[.int .i64 kind,.int .i64 (ix:Nat),.int .i64 (sub:Nat),.bool tg,.bool la,.bool cr,.bool sz,.int .u32 (size:Nat),.int .u32 (code:Nat),.slice A n c,.int .i64 (sq:Nat),.int .i64 (bl:Nat),.int .i64 (em:Nat),.int .u16 (sum:Nat)])
 case first=>
  rcases HG.out with rfl | rfl | rfl | rfl | rfl
  · have qm:=h0.m
    obtain⟨qm_c0,qm_c1,qm_c2,qm_c3,qm_c4,qm_c5,qm_c6,qm_c7,qm_c8,qm_c9,qm_c10,qm_c11,qm_c12,qm_c13⟩:= zbs qm
    have qm_f:=qm.frozen
    have zm:=qm.lt
    go_wp2_with fail
    refine (zkd 4 4 code h0 (by omega) (by omega)).mono ?_
    rintro e W1 ⟨rfl,g1⟩
    clear zm
    clear qm_c0 qm_c1 qm_c2 qm_c3 qm_c4 qm_c5 qm_c6 qm_c7 qm_c8 qm_c9 qm_c10 qm_c11 qm_c12 qm_c13 qm_f
    clear qm
    have qm:=g1.m
    obtain⟨qm_c0,qm_c1,qm_c2,qm_c3,qm_c4,qm_c5,qm_c6,qm_c7,qm_c8,qm_c9,qm_c10,qm_c11,qm_c12,qm_c13⟩:= zbs qm
    have qm_f:=qm.frozen
    have zm:=qm.lt
    go_wp2_with fail
    go_meet
    exact⟨by simp[rfirB,plB]<;> first | rfl | omega,by simp[rplcB],by simpa [rbodL] using g1⟩
  · have hn4:n≤4:=H4.out (by omega)
    cases sz
    · have qm:=h0.m
      obtain⟨qm_c0,qm_c1,qm_c2,qm_c3,qm_c4,qm_c5,qm_c6,qm_c7,qm_c8,qm_c9,qm_c10,qm_c11,qm_c12,qm_c13⟩:= zbs qm
      have qm_f:=qm.frozen
      have zm:=qm.lt
      go_wp2_with fail
      refine (zj9 _ 1 _).mono ?_
      rintro e w2 ⟨rfl,rfl⟩
      go_wp2_with fail
      refine (zkd 4 4 size h0 (by omega) (by omega)).mono ?_
      rintro e W1 ⟨rfl,g1⟩
      clear zm
      clear qm_c0 qm_c1 qm_c2 qm_c3 qm_c4 qm_c5 qm_c6 qm_c7 qm_c8 qm_c9 qm_c10 qm_c11 qm_c12 qm_c13 qm_f
      clear qm
      have qm:=g1.m
      obtain⟨qm_c0,qm_c1,qm_c2,qm_c3,qm_c4,qm_c5,qm_c6,qm_c7,qm_c8,qm_c9,qm_c10,qm_c11,qm_c12,qm_c13⟩:= zbs qm
      have qm_f:=qm.frozen
      have zm:=qm.lt
      by_cases hn0:n=0
      · have hn0':(n:Int)≤ 0:=by omega
        have HN0:=zak hn0
        clear hn0
        go_wp2_with fail
        go_meet
        exact⟨by simp[rfirB,plB,HN0.out]<;> first | rfl | omega,by simp[rplcB],by simpa [rbodL,HN0.out] using g1⟩
      · have hn0':(0:Int) < (n:Int):= by omega
        have HN0:=zak hn0
        clear hn0
        go_wp2_with fail
        obtain⟨W9,hrun,g9,_⟩:= zke A n c 4 4 data g1.drew HN.out rfl (by omega) (hsW.out _ g1.drew.gr)
        refine wp_region_held_drew (S:=(fun w'=>w'.cell? ⟨w.heap.size,9,none⟩=some (.slice A n c))) (by kernel_rfl) ?hS1 (fun hHeld=>?rest1)
        case hS1=>((try dsimp only);(exact g1.m.cell 9 rfl))
        case' rest1=>skip
        iterate 4 (refine tkN ?_;try simp only[PqL,Act.put])
        refine wpAnyH_ready (rs:= [4]) (by kernel_rfl) (by simp) ?_
        refine AllReadyH.cons (o:=_) rfl (fun K hK=>?_) AllReadyH.nil
        go_simp
        refine hK.out _ _ ?hS8 (fun hHeld=>?rest8)
        case hS8=>((try dsimp only);(exact g9.m.cell 9 rfl))
        case' rest8=>(clear hK K;try simp only[PqL,Act.put])
        refine wpAnyH_done (by kernel_rfl) ?_ _
        repeat (clear hHeld)
        clear zm
        clear qm_c0 qm_c1 qm_c2 qm_c3 qm_c4 qm_c5 qm_c6 qm_c7 qm_c8 qm_c9 qm_c10 qm_c11 qm_c12 qm_c13 qm_f
        clear qm
        go_wp2_with fail
        go_meet
        exact⟨by simp[rfirB,plB,HN0.out]<;> first | rfl | omega,by simp[rplcB],by simpa [rbodL,HN0.out] using g9⟩
    · have qm:=h0.m
      obtain⟨qm_c0,qm_c1,qm_c2,qm_c3,qm_c4,qm_c5,qm_c6,qm_c7,qm_c8,qm_c9,qm_c10,qm_c11,qm_c12,qm_c13⟩:= zbs qm
      have qm_f:=qm.frozen
      have zm:=qm.lt
      go_wp2_with fail
      refine (zj9 _ 1 _).mono ?_
      rintro e w2 ⟨rfl,rfl⟩
      go_wp2_with fail
      refine (zkd 4 4 size h0 (by omega) (by omega)).mono ?_
      rintro e W1 ⟨rfl,g1⟩
      clear zm
      clear qm_c0 qm_c1 qm_c2 qm_c3 qm_c4 qm_c5 qm_c6 qm_c7 qm_c8 qm_c9 qm_c10 qm_c11 qm_c12 qm_c13 qm_f
      clear qm
      have qm:=g1.m
      obtain⟨qm_c0,qm_c1,qm_c2,qm_c3,qm_c4,qm_c5,qm_c6,qm_c7,qm_c8,qm_c9,qm_c10,qm_c11,qm_c12,qm_c13⟩:= zbs qm
      have qm_f:=qm.frozen
      have zm:=qm.lt
      by_cases hn0:n=0
      · have hn0':(n:Int)≤ 0:=by omega
        have HN0:=zak hn0
        clear hn0
        go_wp2_with fail
        go_meet
        exact⟨by simp[rfirB,plB,HN0.out]<;> first | rfl | omega,by simp[rplcB],by simpa [rbodL,HN0.out] using g1⟩
      · have hn0':(0:Int) < (n:Int):= by omega
        have HN0:=zak hn0
        clear hn0
        go_wp2_with fail
        obtain⟨W9,hrun,g9,_⟩:= zke A n c 4 4 data g1.drew HN.out rfl (by omega) (hsW.out _ g1.drew.gr)
        refine wp_region_held_drew (S:=(fun w'=>w'.cell? ⟨w.heap.size,9,none⟩=some (.slice A n c))) (by kernel_rfl) ?hS9 (fun hHeld=>?rest9)
        case hS9=>((try dsimp only);(exact g1.m.cell 9 rfl))
        case' rest9=>skip
        iterate 4 (refine tkN ?_;try simp only[PqL,Act.put])
        refine wpAnyH_ready (rs:= [4]) (by kernel_rfl) (by simp) ?_
        refine AllReadyH.cons (o:=_) rfl (fun K hK=>?_) AllReadyH.nil
        go_simp
        refine hK.out _ _ ?hS16 (fun hHeld=>?rest16)
        case hS16=>((try dsimp only);(exact g9.m.cell 9 rfl))
        case' rest16=>(clear hK K;try simp only[PqL,Act.put])
        refine wpAnyH_done (by kernel_rfl) ?_ _
        repeat (clear hHeld)
        clear zm
        clear qm_c0 qm_c1 qm_c2 qm_c3 qm_c4 qm_c5 qm_c6 qm_c7 qm_c8 qm_c9 qm_c10 qm_c11 qm_c12 qm_c13 qm_f
        clear qm
        go_wp2_with fail
        go_meet
        exact⟨by simp[rfirB,plB,HN0.out]<;> first | rfl | omega,by simp[rplcB],by simpa [rbodL,HN0.out] using g9⟩
  · have i1:IntKind.i64.wrap (7 - (n:Int))=7 - (n:Int):= IntWalk.i64_in _ (by omega)
    have i2:IntKind.i64.wrap ((7 - (n:Int)) * 2)=(7 - (n:Int)) * 2:=IntWalk.i64_in _ (by omega)
    have i2':IntKind.i64.wrap (2 * (7 - (n:Int)))=2 * (7 - (n:Int)):= IntWalk.i64_in _ (by omega)
    cases tg
    · cases la
      · have qm:=h0.m
        obtain⟨qm_c0,qm_c1,qm_c2,qm_c3,qm_c4,qm_c5,qm_c6,qm_c7,qm_c8,qm_c9,qm_c10,qm_c11,qm_c12,qm_c13⟩:= zbs qm
        have qm_f:=qm.frozen
        have zm:=qm.lt
        go_wp2_with fail
        refine wp_region_held_drew (S:=(fun w'=>(∀ qA:Addr,qA.block < (w1).heap.size→w'.cell? qA=(w1).cell? qA)∧ Below (w1).heap.size (w1) w')) (by kernel_rfl) ?hS17 (fun hHeld=>?rest17)
        case hS17=>((try dsimp only);(((try go_split_ands);refine zbn ?_;repeat' (first | with_reducible assumption | with_reducible exact Below.refl _ _ | with_reducible apply zbp | with_reducible apply zb3 | with_reducible apply zb2 | (with_reducible apply zbo;with_reducible assumption) | (with_reducible apply zb4;(first | exact Nat.le_refl _ | (simp;done) | omega))))))
        case' rest17=>skip
        iterate 2 (refine tkN ?_;try simp only[PqL,Act.put])
        refine tkH 3 ?_
        try simp only[PqL,Act.put]
        refine tkH 4 ?_
        try simp only[PqL,Act.put]
        refine tkH 5 ?_
        try simp only[PqL,Act.put]
        refine tkH 6 ?_
        try simp only[PqL,Act.put]
        refine tkH 7 ?_
        try simp only[PqL,Act.put]
        refine tkH 9 ?_
        try simp only[PqL,Act.put]
        refine tkH 10 ?_
        try simp only[PqL,Act.put]
        refine wpAnyH_ready (rs:= [2]) (by kernel_rfl) (by simp) ?_
        refine AllReadyH.cons (o:=_) rfl (fun K hK=>?_) AllReadyH.nil
        go_simp
        refine (zj9 _ 16 _).mono ?_
        rintro e w3 ⟨rfl,rfl⟩
        try dsimp only
        refine hK.out _ _ ?hS29 (fun hHeld=>?rest29)
        case hS29=>((try dsimp only);(((try go_split_ands);refine zbn ?_;repeat' (first | with_reducible assumption | with_reducible exact Below.refl _ _ | with_reducible apply zbp | with_reducible apply zb3 | with_reducible apply zb2 | (with_reducible apply zbo;with_reducible assumption) | (with_reducible apply zb4;(first | exact Nat.le_refl _ | (simp;done) | omega))))))
        case' rest29=>(clear hK K;try simp only[PqL,Act.put])
        refine tkH 8 ?_
        try simp only[PqL,Act.put]
        refine wpAnyH_ready (rs:= [11]) (by kernel_rfl) (by simp) ?_
        refine AllReadyH.cons (o:=_) rfl (fun K hK=>?_) AllReadyH.nil
        go_simp
        refine (zj9 _ 1 _).mono ?_
        rintro e w4 ⟨rfl,rfl⟩
        try dsimp only
        refine hK.out _ _ ?hS33 (fun hHeld=>?rest33)
        case hS33=>((try dsimp only);(((try go_split_ands);refine zbn ?_;repeat' (first | with_reducible assumption | with_reducible exact Below.refl _ _ | with_reducible apply zbp | with_reducible apply zb3 | with_reducible apply zb2 | (with_reducible apply zbo;with_reducible assumption) | (with_reducible apply zb4;(first | exact Nat.le_refl _ | (simp;done) | omega))))))
        case' rest33=>(clear hK K;try simp only[PqL,Act.put])
        refine wpAnyH_ready (rs:= [12]) (by kernel_rfl) (by simp) ?_
        refine AllReadyH.cons (o:=_) rfl (fun K hK=>?_) AllReadyH.nil
        go_simp
        refine hK.out _ _ ?hS36 (fun hHeld=>?rest36)
        case hS36=>((try dsimp only);(((try go_split_ands);refine zbn ?_;repeat' (first | with_reducible assumption | with_reducible exact Below.refl _ _ | with_reducible apply zbp | with_reducible apply zb3 | with_reducible apply zb2 | (with_reducible apply zbo;with_reducible assumption) | (with_reducible apply zb4;(first | exact Nat.le_refl _ | (simp;done) | omega))))))
        case' rest36=>(clear hK K;try simp only[PqL,Act.put])
        refine wpAnyH_ready (rs:= [13]) (by kernel_rfl) (by simp) ?_
        refine AllReadyH.cons (o:=_) rfl (fun K hK=>?_) AllReadyH.nil
        go_simp
        refine hK.out _ _ ?hS39 (fun hHeld=>?rest39)
        case hS39=>((try dsimp only);(((try go_split_ands);refine zbn ?_;repeat' (first | with_reducible assumption | with_reducible exact Below.refl _ _ | with_reducible apply zbp | with_reducible apply zb3 | with_reducible apply zb2 | (with_reducible apply zbo;with_reducible assumption) | (with_reducible apply zb4;(first | exact Nat.le_refl _ | (simp;done) | omega))))))
        case' rest39=>(clear hK K;try simp only[PqL,Act.put])
        refine wpAnyH_done (by kernel_rfl) ?_ _
        have hEnd:=hHeld.2
        repeat (clear hHeld)
        clear hEnd i1 i2 i2'
        have g0:=h0.drew
        go_wp2_with fail
        generalize w1.drew=W0 at *
        obtain⟨W9,hrun,g9,_⟩:= zke A n c 1 7 data g0.drew HN.out rfl (by omega) (hsW.out _ g0.drew.gr)
        refine wp_region_held_drew (S:=(fun w'=>w'.cell? ⟨w.heap.size,9,none⟩=some (.slice A n c))) (by kernel_rfl) ?hS41 (fun hHeld=>?rest41)
        case hS41=>((try dsimp only);(exact g0.m.cell 9 rfl))
        case' rest41=>skip
        iterate 4 (refine tkN ?_;try simp only[PqL,Act.put])
        refine wpAnyH_ready (rs:= [4]) (by kernel_rfl) (by simp) ?_
        refine AllReadyH.cons (o:=_) rfl (fun K hK=>?_) AllReadyH.nil
        go_simp
        refine hK.out _ _ ?hS48 (fun hHeld=>?rest48)
        case hS48=>((try dsimp only);(exact g9.m.cell 9 rfl))
        case' rest48=>(clear hK K;try simp only[PqL,Act.put])
        refine wpAnyH_done (by kernel_rfl) ?_ _
        repeat (clear hHeld)
        clear zm
        clear qm_c0 qm_c1 qm_c2 qm_c3 qm_c4 qm_c5 qm_c6 qm_c7 qm_c8 qm_c9 qm_c10 qm_c11 qm_c12 qm_c13 qm_f
        clear qm
        go_wp2_with fail
        go_meet
        exact⟨by simp[rfirB,plB,IntKind.wrap_i64]<;> first | rfl | omega,by simp[rplcB],by simpa [rbodL] using g9⟩
      · have qm:=h0.m
        obtain⟨qm_c0,qm_c1,qm_c2,qm_c3,qm_c4,qm_c5,qm_c6,qm_c7,qm_c8,qm_c9,qm_c10,qm_c11,qm_c12,qm_c13⟩:= zbs qm
        have qm_f:=qm.frozen
        have zm:=qm.lt
        go_wp2_with fail
        refine wp_region_held_drew (S:=(fun w'=>(∀ qA:Addr,qA.block < (w1).heap.size→w'.cell? qA=(w1).cell? qA)∧ Below (w1).heap.size (w1) w')) (by kernel_rfl) ?hS49 (fun hHeld=>?rest49)
        case hS49=>((try dsimp only);(((try go_split_ands);refine zbn ?_;repeat' (first | with_reducible assumption | with_reducible exact Below.refl _ _ | with_reducible apply zbp | with_reducible apply zb3 | with_reducible apply zb2 | (with_reducible apply zbo;with_reducible assumption) | (with_reducible apply zb4;(first | exact Nat.le_refl _ | (simp;done) | omega))))))
        case' rest49=>skip
        iterate 2 (refine tkN ?_;try simp only[PqL,Act.put])
        refine tkH 3 ?_
        try simp only[PqL,Act.put]
        refine tkH 4 ?_
        try simp only[PqL,Act.put]
        refine tkH 5 ?_
        try simp only[PqL,Act.put]
        refine tkH 6 ?_
        try simp only[PqL,Act.put]
        refine tkH 7 ?_
        try simp only[PqL,Act.put]
        refine tkH 9 ?_
        try simp only[PqL,Act.put]
        refine tkH 10 ?_
        try simp only[PqL,Act.put]
        refine wpAnyH_ready (rs:= [2]) (by kernel_rfl) (by simp) ?_
        refine AllReadyH.cons (o:=_) rfl (fun K hK=>?_) AllReadyH.nil
        go_simp
        refine (zj9 _ 16 _).mono ?_
        rintro e w3 ⟨rfl,rfl⟩
        try dsimp only
        refine hK.out _ _ ?hS61 (fun hHeld=>?rest61)
        case hS61=>((try dsimp only);(((try go_split_ands);refine zbn ?_;repeat' (first | with_reducible assumption | with_reducible exact Below.refl _ _ | with_reducible apply zbp | with_reducible apply zb3 | with_reducible apply zb2 | (with_reducible apply zbo;with_reducible assumption) | (with_reducible apply zb4;(first | exact Nat.le_refl _ | (simp;done) | omega))))))
        case' rest61=>(clear hK K;try simp only[PqL,Act.put])
        refine tkH 8 ?_
        try simp only[PqL,Act.put]
        refine wpAnyH_ready (rs:= [11]) (by kernel_rfl) (by simp) ?_
        refine AllReadyH.cons (o:=_) rfl (fun K hK=>?_) AllReadyH.nil
        go_simp
        refine (zj9 _ 1 _).mono ?_
        rintro e w4 ⟨rfl,rfl⟩
        try dsimp only
        refine hK.out _ _ ?hS65 (fun hHeld=>?rest65)
        case hS65=>((try dsimp only);(((try go_split_ands);refine zbn ?_;repeat' (first | with_reducible assumption | with_reducible exact Below.refl _ _ | with_reducible apply zbp | with_reducible apply zb3 | with_reducible apply zb2 | (with_reducible apply zbo;with_reducible assumption) | (with_reducible apply zb4;(first | exact Nat.le_refl _ | (simp;done) | omega))))))
        case' rest65=>(clear hK K;try simp only[PqL,Act.put])
        refine wpAnyH_ready (rs:= [12]) (by kernel_rfl) (by simp) ?_
        refine AllReadyH.cons (o:=_) rfl (fun K hK=>?_) AllReadyH.nil
        go_simp
        refine hK.out _ _ ?hS68 (fun hHeld=>?rest68)
        case hS68=>((try dsimp only);(((try go_split_ands);refine zbn ?_;repeat' (first | with_reducible assumption | with_reducible exact Below.refl _ _ | with_reducible apply zbp | with_reducible apply zb3 | with_reducible apply zb2 | (with_reducible apply zbo;with_reducible assumption) | (with_reducible apply zb4;(first | exact Nat.le_refl _ | (simp;done) | omega))))))
        case' rest68=>(clear hK K;try simp only[PqL,Act.put])
        refine wpAnyH_ready (rs:= [13]) (by kernel_rfl) (by simp) ?_
        refine AllReadyH.cons (o:=_) rfl (fun K hK=>?_) AllReadyH.nil
        go_simp
        refine hK.out _ _ ?hS71 (fun hHeld=>?rest71)
        case hS71=>((try dsimp only);(((try go_split_ands);refine zbn ?_;repeat' (first | with_reducible assumption | with_reducible exact Below.refl _ _ | with_reducible apply zbp | with_reducible apply zb3 | with_reducible apply zb2 | (with_reducible apply zbo;with_reducible assumption) | (with_reducible apply zb4;(first | exact Nat.le_refl _ | (simp;done) | omega))))))
        case' rest71=>(clear hK K;try simp only[PqL,Act.put])
        refine wpAnyH_done (by kernel_rfl) ?_ _
        have hEnd:=hHeld.2
        repeat (clear hHeld)
        clear hEnd i1 i2 i2'
        have g0:=h0.drew
        go_wp2_with fail
        generalize w1.drew=W0 at *
        obtain⟨W9,hrun,g9,_⟩:= zke A n c 1 7 data g0.drew HN.out rfl (by omega) (hsW.out _ g0.drew.gr)
        refine wp_region_held_drew (S:=(fun w'=>w'.cell? ⟨w.heap.size,9,none⟩=some (.slice A n c))) (by kernel_rfl) ?hS73 (fun hHeld=>?rest73)
        case hS73=>((try dsimp only);(exact g0.m.cell 9 rfl))
        case' rest73=>skip
        iterate 4 (refine tkN ?_;try simp only[PqL,Act.put])
        refine wpAnyH_ready (rs:= [4]) (by kernel_rfl) (by simp) ?_
        refine AllReadyH.cons (o:=_) rfl (fun K hK=>?_) AllReadyH.nil
        go_simp
        refine hK.out _ _ ?hS80 (fun hHeld=>?rest80)
        case hS80=>((try dsimp only);(exact g9.m.cell 9 rfl))
        case' rest80=>(clear hK K;try simp only[PqL,Act.put])
        refine wpAnyH_done (by kernel_rfl) ?_ _
        repeat (clear hHeld)
        clear zm
        clear qm_c0 qm_c1 qm_c2 qm_c3 qm_c4 qm_c5 qm_c6 qm_c7 qm_c8 qm_c9 qm_c10 qm_c11 qm_c12 qm_c13 qm_f
        clear qm
        go_wp2_with fail
        go_meet
        exact⟨by simp[rfirB,plB,IntKind.wrap_i64]<;> first | rfl | omega,by simp[rplcB],by simpa [rbodL] using g9⟩
    · cases la
      · have qm:=h0.m
        obtain⟨qm_c0,qm_c1,qm_c2,qm_c3,qm_c4,qm_c5,qm_c6,qm_c7,qm_c8,qm_c9,qm_c10,qm_c11,qm_c12,qm_c13⟩:= zbs qm
        have qm_f:=qm.frozen
        have zm:=qm.lt
        go_wp2_with fail
        refine wp_region_held_drew (S:=(fun w'=>(∀ qA:Addr,qA.block < (w1).heap.size→w'.cell? qA=(w1).cell? qA)∧ Below (w1).heap.size (w1) w')) (by kernel_rfl) ?hS81 (fun hHeld=>?rest81)
        case hS81=>((try dsimp only);(((try go_split_ands);refine zbn ?_;repeat' (first | with_reducible assumption | with_reducible exact Below.refl _ _ | with_reducible apply zbp | with_reducible apply zb3 | with_reducible apply zb2 | (with_reducible apply zbo;with_reducible assumption) | (with_reducible apply zb4;(first | exact Nat.le_refl _ | (simp;done) | omega))))))
        case' rest81=>skip
        iterate 2 (refine tkN ?_;try simp only[PqL,Act.put])
        refine tkH 3 ?_
        try simp only[PqL,Act.put]
        refine tkH 4 ?_
        try simp only[PqL,Act.put]
        refine tkH 5 ?_
        try simp only[PqL,Act.put]
        refine tkH 6 ?_
        try simp only[PqL,Act.put]
        refine tkH 7 ?_
        try simp only[PqL,Act.put]
        refine tkH 9 ?_
        try simp only[PqL,Act.put]
        refine tkH 10 ?_
        try simp only[PqL,Act.put]
        refine wpAnyH_ready (rs:= [2]) (by kernel_rfl) (by simp) ?_
        refine AllReadyH.cons (o:=_) rfl (fun K hK=>?_) AllReadyH.nil
        go_simp
        refine (zj9 _ 16 _).mono ?_
        rintro e w3 ⟨rfl,rfl⟩
        try dsimp only
        refine hK.out _ _ ?hS93 (fun hHeld=>?rest93)
        case hS93=>((try dsimp only);(((try go_split_ands);refine zbn ?_;repeat' (first | with_reducible assumption | with_reducible exact Below.refl _ _ | with_reducible apply zbp | with_reducible apply zb3 | with_reducible apply zb2 | (with_reducible apply zbo;with_reducible assumption) | (with_reducible apply zb4;(first | exact Nat.le_refl _ | (simp;done) | omega))))))
        case' rest93=>(clear hK K;try simp only[PqL,Act.put])
        refine tkH 8 ?_
        try simp only[PqL,Act.put]
        refine wpAnyH_ready (rs:= [11]) (by kernel_rfl) (by simp) ?_
        refine AllReadyH.cons (o:=_) rfl (fun K hK=>?_) AllReadyH.nil
        go_simp
        refine (zj9 _ 1 _).mono ?_
        rintro e w4 ⟨rfl,rfl⟩
        try dsimp only
        refine hK.out _ _ ?hS97 (fun hHeld=>?rest97)
        case hS97=>((try dsimp only);(((try go_split_ands);refine zbn ?_;repeat' (first | with_reducible assumption | with_reducible exact Below.refl _ _ | with_reducible apply zbp | with_reducible apply zb3 | with_reducible apply zb2 | (with_reducible apply zbo;with_reducible assumption) | (with_reducible apply zb4;(first | exact Nat.le_refl _ | (simp;done) | omega))))))
        case' rest97=>(clear hK K;try simp only[PqL,Act.put])
        refine wpAnyH_ready (rs:= [12]) (by kernel_rfl) (by simp) ?_
        refine AllReadyH.cons (o:=_) rfl (fun K hK=>?_) AllReadyH.nil
        go_simp
        refine hK.out _ _ ?hS100 (fun hHeld=>?rest100)
        case hS100=>((try dsimp only);(((try go_split_ands);refine zbn ?_;repeat' (first | with_reducible assumption | with_reducible exact Below.refl _ _ | with_reducible apply zbp | with_reducible apply zb3 | with_reducible apply zb2 | (with_reducible apply zbo;with_reducible assumption) | (with_reducible apply zb4;(first | exact Nat.le_refl _ | (simp;done) | omega))))))
        case' rest100=>(clear hK K;try simp only[PqL,Act.put])
        refine wpAnyH_ready (rs:= [13]) (by kernel_rfl) (by simp) ?_
        refine AllReadyH.cons (o:=_) rfl (fun K hK=>?_) AllReadyH.nil
        go_simp
        refine hK.out _ _ ?hS103 (fun hHeld=>?rest103)
        case hS103=>((try dsimp only);(((try go_split_ands);refine zbn ?_;repeat' (first | with_reducible assumption | with_reducible exact Below.refl _ _ | with_reducible apply zbp | with_reducible apply zb3 | with_reducible apply zb2 | (with_reducible apply zbo;with_reducible assumption) | (with_reducible apply zb4;(first | exact Nat.le_refl _ | (simp;done) | omega))))))
        case' rest103=>(clear hK K;try simp only[PqL,Act.put])
        refine wpAnyH_done (by kernel_rfl) ?_ _
        have hEnd:=hHeld.2
        repeat (clear hHeld)
        clear hEnd i1 i2 i2'
        have g0:=h0.drew
        go_wp2_with fail
        generalize w1.drew=W0 at *
        obtain⟨W9,hrun,g9,_⟩:= zke A n c 1 7 data g0.drew HN.out rfl (by omega) (hsW.out _ g0.drew.gr)
        refine wp_region_held_drew (S:=(fun w'=>w'.cell? ⟨w.heap.size,9,none⟩=some (.slice A n c))) (by kernel_rfl) ?hS105 (fun hHeld=>?rest105)
        case hS105=>((try dsimp only);(exact g0.m.cell 9 rfl))
        case' rest105=>skip
        iterate 4 (refine tkN ?_;try simp only[PqL,Act.put])
        refine wpAnyH_ready (rs:= [4]) (by kernel_rfl) (by simp) ?_
        refine AllReadyH.cons (o:=_) rfl (fun K hK=>?_) AllReadyH.nil
        go_simp
        refine hK.out _ _ ?hS112 (fun hHeld=>?rest112)
        case hS112=>((try dsimp only);(exact g9.m.cell 9 rfl))
        case' rest112=>(clear hK K;try simp only[PqL,Act.put])
        refine wpAnyH_done (by kernel_rfl) ?_ _
        repeat (clear hHeld)
        clear zm
        clear qm_c0 qm_c1 qm_c2 qm_c3 qm_c4 qm_c5 qm_c6 qm_c7 qm_c8 qm_c9 qm_c10 qm_c11 qm_c12 qm_c13 qm_f
        clear qm
        go_wp2_with fail
        go_meet
        exact⟨by simp[rfirB,plB,IntKind.wrap_i64]<;> first | rfl | omega,by simp[rplcB],by simpa [rbodL] using g9⟩
      · have qm:=h0.m
        obtain⟨qm_c0,qm_c1,qm_c2,qm_c3,qm_c4,qm_c5,qm_c6,qm_c7,qm_c8,qm_c9,qm_c10,qm_c11,qm_c12,qm_c13⟩:= zbs qm
        have qm_f:=qm.frozen
        have zm:=qm.lt
        go_wp2_with fail
        refine wp_region_held_drew (S:=(fun w'=>(∀ qA:Addr,qA.block < (w1).heap.size→w'.cell? qA=(w1).cell? qA)∧ Below (w1).heap.size (w1) w')) (by kernel_rfl) ?hS113 (fun hHeld=>?rest113)
        case hS113=>((try dsimp only);(((try go_split_ands);refine zbn ?_;repeat' (first | with_reducible assumption | with_reducible exact Below.refl _ _ | with_reducible apply zbp | with_reducible apply zb3 | with_reducible apply zb2 | (with_reducible apply zbo;with_reducible assumption) | (with_reducible apply zb4;(first | exact Nat.le_refl _ | (simp;done) | omega))))))
        case' rest113=>skip
        iterate 2 (refine tkN ?_;try simp only[PqL,Act.put])
        refine tkH 3 ?_
        try simp only[PqL,Act.put]
        refine tkH 4 ?_
        try simp only[PqL,Act.put]
        refine tkH 5 ?_
        try simp only[PqL,Act.put]
        refine tkH 6 ?_
        try simp only[PqL,Act.put]
        refine tkH 7 ?_
        try simp only[PqL,Act.put]
        refine tkH 9 ?_
        try simp only[PqL,Act.put]
        refine tkH 10 ?_
        try simp only[PqL,Act.put]
        refine wpAnyH_ready (rs:= [2]) (by kernel_rfl) (by simp) ?_
        refine AllReadyH.cons (o:=_) rfl (fun K hK=>?_) AllReadyH.nil
        go_simp
        refine (zj9 _ 16 _).mono ?_
        rintro e w3 ⟨rfl,rfl⟩
        try dsimp only
        refine hK.out _ _ ?hS125 (fun hHeld=>?rest125)
        case hS125=>((try dsimp only);(((try go_split_ands);refine zbn ?_;repeat' (first | with_reducible assumption | with_reducible exact Below.refl _ _ | with_reducible apply zbp | with_reducible apply zb3 | with_reducible apply zb2 | (with_reducible apply zbo;with_reducible assumption) | (with_reducible apply zb4;(first | exact Nat.le_refl _ | (simp;done) | omega))))))
        case' rest125=>(clear hK K;try simp only[PqL,Act.put])
        refine tkH 8 ?_
        try simp only[PqL,Act.put]
        refine wpAnyH_ready (rs:= [11]) (by kernel_rfl) (by simp) ?_
        refine AllReadyH.cons (o:=_) rfl (fun K hK=>?_) AllReadyH.nil
        go_simp
        refine (zj9 _ 1 _).mono ?_
        rintro e w4 ⟨rfl,rfl⟩
        try dsimp only
        refine hK.out _ _ ?hS129 (fun hHeld=>?rest129)
        case hS129=>((try dsimp only);(((try go_split_ands);refine zbn ?_;repeat' (first | with_reducible assumption | with_reducible exact Below.refl _ _ | with_reducible apply zbp | with_reducible apply zb3 | with_reducible apply zb2 | (with_reducible apply zbo;with_reducible assumption) | (with_reducible apply zb4;(first | exact Nat.le_refl _ | (simp;done) | omega))))))
        case' rest129=>(clear hK K;try simp only[PqL,Act.put])
        refine wpAnyH_ready (rs:= [12]) (by kernel_rfl) (by simp) ?_
        refine AllReadyH.cons (o:=_) rfl (fun K hK=>?_) AllReadyH.nil
        go_simp
        refine hK.out _ _ ?hS132 (fun hHeld=>?rest132)
        case hS132=>((try dsimp only);(((try go_split_ands);refine zbn ?_;repeat' (first | with_reducible assumption | with_reducible exact Below.refl _ _ | with_reducible apply zbp | with_reducible apply zb3 | with_reducible apply zb2 | (with_reducible apply zbo;with_reducible assumption) | (with_reducible apply zb4;(first | exact Nat.le_refl _ | (simp;done) | omega))))))
        case' rest132=>(clear hK K;try simp only[PqL,Act.put])
        refine wpAnyH_ready (rs:= [13]) (by kernel_rfl) (by simp) ?_
        refine AllReadyH.cons (o:=_) rfl (fun K hK=>?_) AllReadyH.nil
        go_simp
        refine hK.out _ _ ?hS135 (fun hHeld=>?rest135)
        case hS135=>((try dsimp only);(((try go_split_ands);refine zbn ?_;repeat' (first | with_reducible assumption | with_reducible exact Below.refl _ _ | with_reducible apply zbp | with_reducible apply zb3 | with_reducible apply zb2 | (with_reducible apply zbo;with_reducible assumption) | (with_reducible apply zb4;(first | exact Nat.le_refl _ | (simp;done) | omega))))))
        case' rest135=>(clear hK K;try simp only[PqL,Act.put])
        refine wpAnyH_done (by kernel_rfl) ?_ _
        have hEnd:=hHeld.2
        repeat (clear hHeld)
        clear hEnd i1 i2 i2'
        have g0:=h0.drew
        go_wp2_with fail
        generalize w1.drew=W0 at *
        obtain⟨W9,hrun,g9,_⟩:= zke A n c 1 7 data g0.drew HN.out rfl (by omega) (hsW.out _ g0.drew.gr)
        refine wp_region_held_drew (S:=(fun w'=>w'.cell? ⟨w.heap.size,9,none⟩=some (.slice A n c))) (by kernel_rfl) ?hS137 (fun hHeld=>?rest137)
        case hS137=>((try dsimp only);(exact g0.m.cell 9 rfl))
        case' rest137=>skip
        iterate 4 (refine tkN ?_;try simp only[PqL,Act.put])
        refine wpAnyH_ready (rs:= [4]) (by kernel_rfl) (by simp) ?_
        refine AllReadyH.cons (o:=_) rfl (fun K hK=>?_) AllReadyH.nil
        go_simp
        refine hK.out _ _ ?hS144 (fun hHeld=>?rest144)
        case hS144=>((try dsimp only);(exact g9.m.cell 9 rfl))
        case' rest144=>(clear hK K;try simp only[PqL,Act.put])
        refine wpAnyH_done (by kernel_rfl) ?_ _
        repeat (clear hHeld)
        clear zm
        clear qm_c0 qm_c1 qm_c2 qm_c3 qm_c4 qm_c5 qm_c6 qm_c7 qm_c8 qm_c9 qm_c10 qm_c11 qm_c12 qm_c13 qm_f
        clear qm
        go_wp2_with fail
        go_meet
        exact⟨by simp[rfirB,plB,IntKind.wrap_i64]<;> first | rfl | omega,by simp[rplcB],by simpa [rbodL] using g9⟩
  · have qm:=h0.m
    obtain⟨qm_c0,qm_c1,qm_c2,qm_c3,qm_c4,qm_c5,qm_c6,qm_c7,qm_c8,qm_c9,qm_c10,qm_c11,qm_c12,qm_c13⟩:= zbs qm
    have qm_f:=qm.frozen
    have zm:=qm.lt
    go_wp2_with fail
    go_meet
    exact⟨by simp[rfirB,plB]<;> first | rfl | omega,by simp[rplcB],by simpa [rbodL] using h0⟩
  · cases tg
    · have qm:=h0.m
      obtain⟨qm_c0,qm_c1,qm_c2,qm_c3,qm_c4,qm_c5,qm_c6,qm_c7,qm_c8,qm_c9,qm_c10,qm_c11,qm_c12,qm_c13⟩:= zbs qm
      have qm_f:=qm.frozen
      have zm:=qm.lt
      go_wp2_with fail
      refine (zj9 _ 16 _).mono ?_
      rintro e w2 ⟨rfl,rfl⟩
      go_wp2_with fail
      go_meet
      exact⟨by simp[rfirB,plB]<;> first | rfl | omega,by simp[rplcB],by simpa [rbodL] using h0⟩
    · have qm:=h0.m
      obtain⟨qm_c0,qm_c1,qm_c2,qm_c3,qm_c4,qm_c5,qm_c6,qm_c7,qm_c8,qm_c9,qm_c10,qm_c11,qm_c12,qm_c13⟩:= zbs qm
      have qm_f:=qm.frozen
      have zm:=qm.lt
      go_wp2_with fail
      refine (zj9 _ 16 _).mono ?_
      rintro e w2 ⟨rfl,rfl⟩
      go_wp2_with fail
      go_meet
      exact⟨by simp[rfirB,plB]<;> first | rfl | omega,by simp[rplcB],by simpa [rbodL] using h0⟩
 case rest=>
  obtain⟨rfl,rfl,h1⟩:= hcut
  clear h0 hlt1
  obtain⟨x,hx⟩:∃ x,x=rfirB kind n tg la cr sz sq em:=⟨_,rfl⟩
  obtain⟨l,hl⟩:∃ l,l=rbodL kind n size code sq bl sum data:=⟨_,rfl⟩
  obtain⟨pb,hpb⟩:∃ b,b=rplcB kind:=⟨_,rfl⟩
  rw[← hl] at h1
  rw[← hx,← hpb]
  have HLL:Hid (rlaidL kind n ix sub size code sq bl em sum tg la cr sz data=if pb=true then (putL (l.set 0 (UInt8.ofNat x)) 1 2 ix).set 3 (UInt8.ofNat sub) else l.set 0 (UInt8.ofNat x)):= zak (by rw[hx,hl,hpb];rfl)
  clear hx hl hpb
  obtain⟨v0,k0,j0⟩:= h1.b.at8 0 (by omega)
  have h2:=h1.byte 0 (UInt8.ofNat x)
  rw[← zkb] at h2
  have qm:=h1.m
  obtain⟨qm_c0,qm_c1,qm_c2,qm_c3,qm_c4,qm_c5,qm_c6,qm_c7,qm_c8,qm_c9,qm_c10,qm_c11,qm_c12,qm_c13⟩:= zbs qm
  have qm_f:=qm.frozen
  have zm:=qm.lt
  cases pb
  · go_wp2_with fail
    go_ret
    exact⟨_,rfl,by rw[HLL.out];exact⟨h2.b.hn,h2.b.own.mono (by omega)⟩,zb0 hbw1.out h2.gr (by omega) hbw1.out.size⟩
  · go_wp2_with fail
    refine (zkd 1 2 ix h2 (by omega) (by omega)).mono ?_
    rintro e W1 ⟨rfl,g1⟩
    clear zm
    clear qm_c0 qm_c1 qm_c2 qm_c3 qm_c4 qm_c5 qm_c6 qm_c7 qm_c8 qm_c9 qm_c10 qm_c11 qm_c12 qm_c13 qm_f
    clear qm
    have qm:=g1.m
    obtain⟨qm_c0,qm_c1,qm_c2,qm_c3,qm_c4,qm_c5,qm_c6,qm_c7,qm_c8,qm_c9,qm_c10,qm_c11,qm_c12,qm_c13⟩:= zbs qm
    have qm_f:=qm.frozen
    have zm:=qm.lt
    obtain⟨v3,k3,j3⟩:= g1.b.at8 3 (by omega)
    have g2:=g1.byte 3 (UInt8.ofNat sub)
    rw[← zkj (show sub < 256 by omega)] at g2
    go_wp2_with fail
    go_ret
    exact⟨_,rfl,by rw[HLL.out];show zb7 _ _ _ _ _ ((putL (l.set 0 (UInt8.ofNat x)) 1 2 ix).set 3 (UInt8.ofNat sub));exact⟨g2.b.hn,g2.b.own.mono (by omega)⟩,zb0 hbw1.out g2.gr (by omega) hbw1.out.size⟩
end
end Go.Proofs.Ythdbckbpldlkeaa
