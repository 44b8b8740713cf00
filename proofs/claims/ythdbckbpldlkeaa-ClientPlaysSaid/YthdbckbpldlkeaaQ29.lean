/- None -/
import Derived.Test.YthdbckbpldlkeaaQ27
namespace Go.Proofs.Ythdbckbpldlkeaa
set_option linter.unusedVariables false
set_option linter.unusedSimpArgs false
set_option linter.unnecessarySimpa false
section
open Go.RowKit
set_option maxRecDepth 100000
set_option maxHeartbeats 16000000
theorem zkx (kind:Int) (ix sub sq bl em size code sum n c:Nat) (tg la cr sz:Bool) (A:Option Addr) (data:List UInt8) (w:World) (k1:1≤kind) (k2:kind≤21) (hu1:size≤4294967295) (hu2:code≤4294967295) (hu3:sum≤65535)
 (A2:ix≤65535) (B2:sub≤255) (C2:sq≤127) (D2:bl≤127) (E2:em≤7) (hn:n=data.length) (hn7:n≤7) (hn4:kind=2∨kind=14→n≤4) (hs:Sl w A (data.map bv)) (hg:kind=6∨kind=7∨kind=8∨kind=9∨kind=10∨kind=11∨kind=12∨kind=13) :
 Calls Try.prog 85 #[.agg #[.int .i64 kind,.int .i64 (ix:Nat),.int .i64 (sub:Nat),.bool tg,.bool la,.bool cr,.bool sz,.int .u32 (size:Nat),.int .u32 (code:Nat),.slice A n c,.int .i64 (sq:Nat),.int .i64 (bl:Nat),.int .i64 (em:Nat),.int .u16 (sum:Nat)]] w (LaidR w (rlaidL kind n ix sub size code sq bl em sum tg la cr sz data)):= by
 have q0:=zbu w 72 #[.int .i64 kind,.int .i64 (ix:Nat),.int .i64 (sub:Nat),.bool tg,.bool la,.bool cr,.bool sz,.int .u32 (size:Nat),.int .u32 (code:Nat),.slice A n c,.int .i64 (sq:Nat),.int .i64 (bl:Nat),.int .i64 (em:Nat),.int .u16 (sum:Nat)]
 have hbw:=zbp (Below.refl w.heap.size w) (.cells #[.int .i64 kind,.int .i64 (ix:Nat),.int .i64 (sub:Nat),.bool tg,.bool la,.bool cr,.bool sz,.int .u32 (size:Nat),.int .u32 (code:Nat),.slice A n c,.int .i64 (sq:Nat),.int .i64 (bl:Nat),.int .i64 (em:Nat),.int .u16 (sum:Nat)] 72)
 have HG:=zak hg
 clear hg
 have HN:=zak hn
 have H4:=zak hn4
 clear hn hn4
 go_enter Try.func85,Try.ntmps85
 go_upto_block 0 with (at_make;refine zb9 _ rfl _ _ rfl _ _ _ _ 8 8 rfl rfl rfl (by omega) (by omega) (by omega) (w.heap.size+1) (by simp) ?_;intro w1 hO1 hlt1 hb1;have c0:=(Blk.below q0 hb1 (by omega)).cell 0 rfl)
 have h0:Rt w1 w1 w.heap.size (w.heap.size+1) (w.heap.size+1) z8 #[.int .i64 kind,.int .i64 (ix:Nat),.int .i64 (sub:Nat),.bool tg,.bool la,.bool cr,.bool sz,.int .u32 (size:Nat),.int .u32 (code:Nat),.slice A n c,.int .i64 (sq:Nat),.int .i64 (bl:Nat),.int .i64 (em:Nat),.int .u16 (sum:Nat)]:=
  ⟨q0.below hb1 (by omega),hO1,by omega,World.grownBy.refl _ _,rfl⟩
 have hs1:Hid (Sl w1 A (data.map bv)):= zak (hs.below (hbw.trans (hb1.mono (by omega))))
 have hbw1:Hid (Below w.heap.size w w1):= zak (hbw.trans (hb1.mono (by omega)))
 have hsW:Hid (∀ W,w1.grownBy W (some (w.heap.size+1))→ Sl W A (data.map bv)):= zak (fun W hg=>by
  intro j u hu
  obtain⟨ad,e,hc⟩:= hs j u hu
  have hlt:=zal hc
  refine⟨ad,e,?_⟩
  obtain⟨_,_,e',hc'⟩:∃ x y:Unit,A=some ad∧w1.cell? (ad.add j)=some u:=⟨(),(),e,(hbw1.out.cell hlt).trans hc⟩
  rw[World.cell?_of_block (hg.block _ (zal hc') (by intro e2;injection e2 with e2;omega))]
  exact hc')
 clear q0 hbw hs hO1 hb1 c0
 go_cut [4,5] (fun s4 s5 wx=>s4= .int .i64 ((rfirB kind n tg la cr sz sq em:Nat):Int)∧ s5= .bool (rplcB kind)∧ Rt w1 wx w.heap.size (w.heap.size+1) (w.heap.size+1) (rbodL kind n size code sq bl sum data) #[.int .i64 kind,.int .i64 (ix:Nat),.int .i64 (sub:Nat),.bool tg,.bool la,.bool cr,.bool sz,.int .u32 (size:Nat),.int .u32 (code:Nat),.slice A n c,.int .i64 (sq:Nat),.int .i64 (bl:Nat),.int .i64 (em:Nat),.int .u16 (sum:Nat)])
 case first=>
  rcases HG.out with rfl | rfl | rfl | rfl | rfl | rfl | rfl | rfl
  · cases cr
    · cases sz
      · have qm:=h0.m
        obtain⟨qm_c0,qm_c1,qm_c2,qm_c3,qm_c4,qm_c5,qm_c6,qm_c7,qm_c8,qm_c9,qm_c10,qm_c11,qm_c12,qm_c13⟩:= zbs qm
        have qm_f:=qm.frozen
        have zm:=qm.lt
        go_wp2_with fail
        refine wp_region_held_drew (S:=(fun w'=>(∀ qA:Addr,qA.block < (w1).heap.size→w'.cell? qA=(w1).cell? qA)∧ Below (w1).heap.size (w1) w')) (by kernel_rfl) ?hS1 (fun hHeld=>?rest1)
        case hS1=>((try dsimp only);(((try go_split_ands);refine zbn ?_;repeat' (first | with_reducible assumption | with_reducible exact Below.refl _ _ | with_reducible apply zbp | with_reducible apply zb3 | with_reducible apply zb2 | (with_reducible apply zbo;with_reducible assumption) | (with_reducible apply zb4;(first | exact Nat.le_refl _ | (simp;done) | omega))))))
        case' rest1=>skip
        iterate 2 (refine tkN ?_;try simp only[PqL,Act.put])
        refine tkH 4 ?_
        try simp only[PqL,Act.put]
        refine tkH 5 ?_
        try simp only[PqL,Act.put]
        refine wpAnyH_ready (rs:= [2]) (by kernel_rfl) (by simp) ?_
        refine AllReadyH.cons (o:=_) rfl (fun K hK=>?_) AllReadyH.nil
        go_simp
        refine (zj9 _ 4 _).mono ?_
        rintro e w3 ⟨rfl,rfl⟩
        try dsimp only
        refine hK.out _ _ ?hS8 (fun hHeld=>?rest8)
        case hS8=>((try dsimp only);(((try go_split_ands);refine zbn ?_;repeat' (first | with_reducible assumption | with_reducible exact Below.refl _ _ | with_reducible apply zbp | with_reducible apply zb3 | with_reducible apply zb2 | (with_reducible apply zbo;with_reducible assumption) | (with_reducible apply zb4;(first | exact Nat.le_refl _ | (simp;done) | omega))))))
        case' rest8=>(clear hK K;try simp only[PqL,Act.put])
        refine tkH 3 ?_
        try simp only[PqL,Act.put]
        refine wpAnyH_ready (rs:= [6]) (by kernel_rfl) (by simp) ?_
        refine AllReadyH.cons (o:=_) rfl (fun K hK=>?_) AllReadyH.nil
        go_simp
        refine (zj9 _ 2 _).mono ?_
        rintro e w4 ⟨rfl,rfl⟩
        try dsimp only
        refine hK.out _ _ ?hS12 (fun hHeld=>?rest12)
        case hS12=>((try dsimp only);(((try go_split_ands);refine zbn ?_;repeat' (first | with_reducible assumption | with_reducible exact Below.refl _ _ | with_reducible apply zbp | with_reducible apply zb3 | with_reducible apply zb2 | (with_reducible apply zbo;with_reducible assumption) | (with_reducible apply zb4;(first | exact Nat.le_refl _ | (simp;done) | omega))))))
        case' rest12=>(clear hK K;try simp only[PqL,Act.put])
        refine wpAnyH_ready (rs:= [7]) (by kernel_rfl) (by simp) ?_
        refine AllReadyH.cons (o:=_) rfl (fun K hK=>?_) AllReadyH.nil
        go_simp
        refine hK.out _ _ ?hS15 (fun hHeld=>?rest15)
        case hS15=>((try dsimp only);(((try go_split_ands);refine zbn ?_;repeat' (first | with_reducible assumption | with_reducible exact Below.refl _ _ | with_reducible apply zbp | with_reducible apply zb3 | with_reducible apply zb2 | (with_reducible apply zbo;with_reducible assumption) | (with_reducible apply zb4;(first | exact Nat.le_refl _ | (simp;done) | omega))))))
        case' rest15=>(clear hK K;try simp only[PqL,Act.put])
        refine wpAnyH_ready (rs:= [8]) (by kernel_rfl) (by simp) ?_
        refine AllReadyH.cons (o:=_) rfl (fun K hK=>?_) AllReadyH.nil
        go_simp
        refine hK.out _ _ ?hS18 (fun hHeld=>?rest18)
        case hS18=>((try dsimp only);(((try go_split_ands);refine zbn ?_;repeat' (first | with_reducible assumption | with_reducible exact Below.refl _ _ | with_reducible apply zbp | with_reducible apply zb3 | with_reducible apply zb2 | (with_reducible apply zbo;with_reducible assumption) | (with_reducible apply zb4;(first | exact Nat.le_refl _ | (simp;done) | omega))))))
        case' rest18=>(clear hK K;try simp only[PqL,Act.put])
        refine wpAnyH_done (by kernel_rfl) ?_ _
        have hEnd:=hHeld.2
        repeat (clear hHeld)
        clear hEnd
        have g0:=h0.drew
        go_wp2_with fail
        refine (zkd 4 4 size g0 (by omega) (by omega)).mono ?_
        rintro e W1 ⟨rfl,g1⟩
        clear zm
        clear qm_c0 qm_c1 qm_c2 qm_c3 qm_c4 qm_c5 qm_c6 qm_c7 qm_c8 qm_c9 qm_c10 qm_c11 qm_c12 qm_c13 qm_f
        clear qm
        have qm:=g1.m
        obtain⟨qm_c0,qm_c1,qm_c2,qm_c3,qm_c4,qm_c5,qm_c6,qm_c7,qm_c8,qm_c9,qm_c10,qm_c11,qm_c12,qm_c13⟩:= zbs qm
        have qm_f:=qm.frozen
        have zm:=qm.lt
        go_wp2_with fail
        go_meet
        exact⟨by simp[rfirB,plB]<;> first | rfl | omega,by simp[rplcB],by simpa [rbodL] using g1⟩
      · have qm:=h0.m
        obtain⟨qm_c0,qm_c1,qm_c2,qm_c3,qm_c4,qm_c5,qm_c6,qm_c7,qm_c8,qm_c9,qm_c10,qm_c11,qm_c12,qm_c13⟩:= zbs qm
        have qm_f:=qm.frozen
        have zm:=qm.lt
        go_wp2_with fail
        refine wp_region_held_drew (S:=(fun w'=>(∀ qA:Addr,qA.block < (w1).heap.size→w'.cell? qA=(w1).cell? qA)∧ Below (w1).heap.size (w1) w')) (by kernel_rfl) ?hS20 (fun hHeld=>?rest20)
        case hS20=>((try dsimp only);(((try go_split_ands);refine zbn ?_;repeat' (first | with_reducible assumption | with_reducible exact Below.refl _ _ | with_reducible apply zbp | with_reducible apply zb3 | with_reducible apply zb2 | (with_reducible apply zbo;with_reducible assumption) | (with_reducible apply zb4;(first | exact Nat.le_refl _ | (simp;done) | omega))))))
        case' rest20=>skip
        iterate 2 (refine tkN ?_;try simp only[PqL,Act.put])
        refine tkH 4 ?_
        try simp only[PqL,Act.put]
        refine tkH 5 ?_
        try simp only[PqL,Act.put]
        refine wpAnyH_ready (rs:= [2]) (by kernel_rfl) (by simp) ?_
        refine AllReadyH.cons (o:=_) rfl (fun K hK=>?_) AllReadyH.nil
        go_simp
        refine (zj9 _ 4 _).mono ?_
        rintro e w3 ⟨rfl,rfl⟩
        try dsimp only
        refine hK.out _ _ ?hS27 (fun hHeld=>?rest27)
        case hS27=>((try dsimp only);(((try go_split_ands);refine zbn ?_;repeat' (first | with_reducible assumption | with_reducible exact Below.refl _ _ | with_reducible apply zbp | with_reducible apply zb3 | with_reducible apply zb2 | (with_reducible apply zbo;with_reducible assumption) | (with_reducible apply zb4;(first | exact Nat.le_refl _ | (simp;done) | omega))))))
        case' rest27=>(clear hK K;try simp only[PqL,Act.put])
        refine tkH 3 ?_
        try simp only[PqL,Act.put]
        refine wpAnyH_ready (rs:= [6]) (by kernel_rfl) (by simp) ?_
        refine AllReadyH.cons (o:=_) rfl (fun K hK=>?_) AllReadyH.nil
        go_simp
        refine (zj9 _ 2 _).mono ?_
        rintro e w4 ⟨rfl,rfl⟩
        try dsimp only
        refine hK.out _ _ ?hS31 (fun hHeld=>?rest31)
        case hS31=>((try dsimp only);(((try go_split_ands);refine zbn ?_;repeat' (first | with_reducible assumption | with_reducible exact Below.refl _ _ | with_reducible apply zbp | with_reducible apply zb3 | with_reducible apply zb2 | (with_reducible apply zbo;with_reducible assumption) | (with_reducible apply zb4;(first | exact Nat.le_refl _ | (simp;done) | omega))))))
        case' rest31=>(clear hK K;try simp only[PqL,Act.put])
        refine wpAnyH_ready (rs:= [7]) (by kernel_rfl) (by simp) ?_
        refine AllReadyH.cons (o:=_) rfl (fun K hK=>?_) AllReadyH.nil
        go_simp
        refine hK.out _ _ ?hS34 (fun hHeld=>?rest34)
        case hS34=>((try dsimp only);(((try go_split_ands);refine zbn ?_;repeat' (first | with_reducible assumption | with_reducible exact Below.refl _ _ | with_reducible apply zbp | with_reducible apply zb3 | with_reducible apply zb2 | (with_reducible apply zbo;with_reducible assumption) | (with_reducible apply zb4;(first | exact Nat.le_refl _ | (simp;done) | omega))))))
        case' rest34=>(clear hK K;try simp only[PqL,Act.put])
        refine wpAnyH_ready (rs:= [8]) (by kernel_rfl) (by simp) ?_
        refine AllReadyH.cons (o:=_) rfl (fun K hK=>?_) AllReadyH.nil
        go_simp
        refine hK.out _ _ ?hS37 (fun hHeld=>?rest37)
        case hS37=>((try dsimp only);(((try go_split_ands);refine zbn ?_;repeat' (first | with_reducible assumption | with_reducible exact Below.refl _ _ | with_reducible apply zbp | with_reducible apply zb3 | with_reducible apply zb2 | (with_reducible apply zbo;with_reducible assumption) | (with_reducible apply zb4;(first | exact Nat.le_refl _ | (simp;done) | omega))))))
        case' rest37=>(clear hK K;try simp only[PqL,Act.put])
        refine wpAnyH_done (by kernel_rfl) ?_ _
        have hEnd:=hHeld.2
        repeat (clear hHeld)
        clear hEnd
        have g0:=h0.drew
        go_wp2_with fail
        refine (zkd 4 4 size g0 (by omega) (by omega)).mono ?_
        rintro e W1 ⟨rfl,g1⟩
        clear zm
        clear qm_c0 qm_c1 qm_c2 qm_c3 qm_c4 qm_c5 qm_c6 qm_c7 qm_c8 qm_c9 qm_c10 qm_c11 qm_c12 qm_c13 qm_f
        clear qm
        have qm:=g1.m
        obtain⟨qm_c0,qm_c1,qm_c2,qm_c3,qm_c4,qm_c5,qm_c6,qm_c7,qm_c8,qm_c9,qm_c10,qm_c11,qm_c12,qm_c13⟩:= zbs qm
        have qm_f:=qm.frozen
        have zm:=qm.lt
        go_wp2_with fail
        go_meet
        exact⟨by simp[rfirB,plB]<;> first | rfl | omega,by simp[rplcB],by simpa [rbodL] using g1⟩
    · cases sz
      · have qm:=h0.m
        obtain⟨qm_c0,qm_c1,qm_c2,qm_c3,qm_c4,qm_c5,qm_c6,qm_c7,qm_c8,qm_c9,qm_c10,qm_c11,qm_c12,qm_c13⟩:= zbs qm
        have qm_f:=qm.frozen
        have zm:=qm.lt
        go_wp2_with fail
        refine wp_region_held_drew (S:=(fun w'=>(∀ qA:Addr,qA.block < (w1).heap.size→w'.cell? qA=(w1).cell? qA)∧ Below (w1).heap.size (w1) w')) (by kernel_rfl) ?hS39 (fun hHeld=>?rest39)
        case hS39=>((try dsimp only);(((try go_split_ands);refine zbn ?_;repeat' (first | with_reducible assumption | with_reducible exact Below.refl _ _ | with_reducible apply zbp | with_reducible apply zb3 | with_reducible apply zb2 | (with_reducible apply zbo;with_reducible assumption) | (with_reducible apply zb4;(first | exact Nat.le_refl _ | (simp;done) | omega))))))
        case' rest39=>skip
        iterate 2 (refine tkN ?_;try simp only[PqL,Act.put])
        refine tkH 4 ?_
        try simp only[PqL,Act.put]
        refine tkH 5 ?_
        try simp only[PqL,Act.put]
        refine wpAnyH_ready (rs:= [2]) (by kernel_rfl) (by simp) ?_
        refine AllReadyH.cons (o:=_) rfl (fun K hK=>?_) AllReadyH.nil
        go_simp
        refine (zj9 _ 4 _).mono ?_
        rintro e w3 ⟨rfl,rfl⟩
        try dsimp only
        refine hK.out _ _ ?hS46 (fun hHeld=>?rest46)
        case hS46=>((try dsimp only);(((try go_split_ands);refine zbn ?_;repeat' (first | with_reducible assumption | with_reducible exact Below.refl _ _ | with_reducible apply zbp | with_reducible apply zb3 | with_reducible apply zb2 | (with_reducible apply zbo;with_reducible assumption) | (with_reducible apply zb4;(first | exact Nat.le_refl _ | (simp;done) | omega))))))
        case' rest46=>(clear hK K;try simp only[PqL,Act.put])
        refine tkH 3 ?_
        try simp only[PqL,Act.put]
        refine wpAnyH_ready (rs:= [6]) (by kernel_rfl) (by simp) ?_
        refine AllReadyH.cons (o:=_) rfl (fun K hK=>?_) AllReadyH.nil
        go_simp
        refine (zj9 _ 2 _).mono ?_
        rintro e w4 ⟨rfl,rfl⟩
        try dsimp only
        refine hK.out _ _ ?hS50 (fun hHeld=>?rest50)
        case hS50=>((try dsimp only);(((try go_split_ands);refine zbn ?_;repeat' (first | with_reducible assumption | with_reducible exact Below.refl _ _ | with_reducible apply zbp | with_reducible apply zb3 | with_reducible apply zb2 | (with_reducible apply zbo;with_reducible assumption) | (with_reducible apply zb4;(first | exact Nat.le_refl _ | (simp;done) | omega))))))
        case' rest50=>(clear hK K;try simp only[PqL,Act.put])
        refine wpAnyH_ready (rs:= [7]) (by kernel_rfl) (by simp) ?_
        refine AllReadyH.cons (o:=_) rfl (fun K hK=>?_) AllReadyH.nil
        go_simp
        refine hK.out _ _ ?hS53 (fun hHeld=>?rest53)
        case hS53=>((try dsimp only);(((try go_split_ands);refine zbn ?_;repeat' (first | with_reducible assumption | with_reducible exact Below.refl _ _ | with_reducible apply zbp | with_reducible apply zb3 | with_reducible apply zb2 | (with_reducible apply zbo;with_reducible assumption) | (with_reducible apply zb4;(first | exact Nat.le_refl _ | (simp;done) | omega))))))
        case' rest53=>(clear hK K;try simp only[PqL,Act.put])
        refine wpAnyH_ready (rs:= [8]) (by kernel_rfl) (by simp) ?_
        refine AllReadyH.cons (o:=_) rfl (fun K hK=>?_) AllReadyH.nil
        go_simp
        refine hK.out _ _ ?hS56 (fun hHeld=>?rest56)
        case hS56=>((try dsimp only);(((try go_split_ands);refine zbn ?_;repeat' (first | with_reducible assumption | with_reducible exact Below.refl _ _ | with_reducible apply zbp | with_reducible apply zb3 | with_reducible apply zb2 | (with_reducible apply zbo;with_reducible assumption) | (with_reducible apply zb4;(first | exact Nat.le_refl _ | (simp;done) | omega))))))
        case' rest56=>(clear hK K;try simp only[PqL,Act.put])
        refine wpAnyH_done (by kernel_rfl) ?_ _
        have hEnd:=hHeld.2
        repeat (clear hHeld)
        clear hEnd
        have g0:=h0.drew
        go_wp2_with fail
        refine (zkd 4 4 size g0 (by omega) (by omega)).mono ?_
        rintro e W1 ⟨rfl,g1⟩
        clear zm
        clear qm_c0 qm_c1 qm_c2 qm_c3 qm_c4 qm_c5 qm_c6 qm_c7 qm_c8 qm_c9 qm_c10 qm_c11 qm_c12 qm_c13 qm_f
        clear qm
        have qm:=g1.m
        obtain⟨qm_c0,qm_c1,qm_c2,qm_c3,qm_c4,qm_c5,qm_c6,qm_c7,qm_c8,qm_c9,qm_c10,qm_c11,qm_c12,qm_c13⟩:= zbs qm
        have qm_f:=qm.frozen
        have zm:=qm.lt
        go_wp2_with fail
        go_meet
        exact⟨by simp[rfirB,plB]<;> first | rfl | omega,by simp[rplcB],by simpa [rbodL] using g1⟩
      · have qm:=h0.m
        obtain⟨qm_c0,qm_c1,qm_c2,qm_c3,qm_c4,qm_c5,qm_c6,qm_c7,qm_c8,qm_c9,qm_c10,qm_c11,qm_c12,qm_c13⟩:= zbs qm
        have qm_f:=qm.frozen
        have zm:=qm.lt
        go_wp2_with fail
        refine wp_region_held_drew (S:=(fun w'=>(∀ qA:Addr,qA.block < (w1).heap.size→w'.cell? qA=(w1).cell? qA)∧ Below (w1).heap.size (w1) w')) (by kernel_rfl) ?hS58 (fun hHeld=>?rest58)
        case hS58=>((try dsimp only);(((try go_split_ands);refine zbn ?_;repeat' (first | with_reducible assumption | with_reducible exact Below.refl _ _ | with_reducible apply zbp | with_reducible apply zb3 | with_reducible apply zb2 | (with_reducible apply zbo;with_reducible assumption) | (with_reducible apply zb4;(first | exact Nat.le_refl _ | (simp;done) | omega))))))
        case' rest58=>skip
        iterate 2 (refine tkN ?_;try simp only[PqL,Act.put])
        refine tkH 4 ?_
        try simp only[PqL,Act.put]
        refine tkH 5 ?_
        try simp only[PqL,Act.put]
        refine wpAnyH_ready (rs:= [2]) (by kernel_rfl) (by simp) ?_
        refine AllReadyH.cons (o:=_) rfl (fun K hK=>?_) AllReadyH.nil
        go_simp
        refine (zj9 _ 4 _).mono ?_
        rintro e w3 ⟨rfl,rfl⟩
        try dsimp only
        refine hK.out _ _ ?hS65 (fun hHeld=>?rest65)
        case hS65=>((try dsimp only);(((try go_split_ands);refine zbn ?_;repeat' (first | with_reducible assumption | with_reducible exact Below.refl _ _ | with_reducible apply zbp | with_reducible apply zb3 | with_reducible apply zb2 | (with_reducible apply zbo;with_reducible assumption) | (with_reducible apply zb4;(first | exact Nat.le_refl _ | (simp;done) | omega))))))
        case' rest65=>(clear hK K;try simp only[PqL,Act.put])
        refine tkH 3 ?_
        try simp only[PqL,Act.put]
        refine wpAnyH_ready (rs:= [6]) (by kernel_rfl) (by simp) ?_
        refine AllReadyH.cons (o:=_) rfl (fun K hK=>?_) AllReadyH.nil
        go_simp
        refine (zj9 _ 2 _).mono ?_
        rintro e w4 ⟨rfl,rfl⟩
        try dsimp only
        refine hK.out _ _ ?hS69 (fun hHeld=>?rest69)
        case hS69=>((try dsimp only);(((try go_split_ands);refine zbn ?_;repeat' (first | with_reducible assumption | with_reducible exact Below.refl _ _ | with_reducible apply zbp | with_reducible apply zb3 | with_reducible apply zb2 | (with_reducible apply zbo;with_reducible assumption) | (with_reducible apply zb4;(first | exact Nat.le_refl _ | (simp;done) | omega))))))
        case' rest69=>(clear hK K;try simp only[PqL,Act.put])
        refine wpAnyH_ready (rs:= [7]) (by kernel_rfl) (by simp) ?_
        refine AllReadyH.cons (o:=_) rfl (fun K hK=>?_) AllReadyH.nil
        go_simp
        refine hK.out _ _ ?hS72 (fun hHeld=>?rest72)
        case hS72=>((try dsimp only);(((try go_split_ands);refine zbn ?_;repeat' (first | with_reducible assumption | with_reducible exact Below.refl _ _ | with_reducible apply zbp | with_reducible apply zb3 | with_reducible apply zb2 | (with_reducible apply zbo;with_reducible assumption) | (with_reducible apply zb4;(first | exact Nat.le_refl _ | (simp;done) | omega))))))
        case' rest72=>(clear hK K;try simp only[PqL,Act.put])
        refine wpAnyH_ready (rs:= [8]) (by kernel_rfl) (by simp) ?_
        refine AllReadyH.cons (o:=_) rfl (fun K hK=>?_) AllReadyH.nil
        go_simp
        refine hK.out _ _ ?hS75 (fun hHeld=>?rest75)
        case hS75=>((try dsimp only);(((try go_split_ands);refine zbn ?_;repeat' (first | with_reducible assumption | with_reducible exact Below.refl _ _ | with_reducible apply zbp | with_reducible apply zb3 | with_reducible apply zb2 | (with_reducible apply zbo;with_reducible assumption) | (with_reducible apply zb4;(first | exact Nat.le_refl _ | (simp;done) | omega))))))
        case' rest75=>(clear hK K;try simp only[PqL,Act.put])
        refine wpAnyH_done (by kernel_rfl) ?_ _
        have hEnd:=hHeld.2
        repeat (clear hHeld)
        clear hEnd
        have g0:=h0.drew
        go_wp2_with fail
        refine (zkd 4 4 size g0 (by omega) (by omega)).mono ?_
        rintro e W1 ⟨rfl,g1⟩
        clear zm
        clear qm_c0 qm_c1 qm_c2 qm_c3 qm_c4 qm_c5 qm_c6 qm_c7 qm_c8 qm_c9 qm_c10 qm_c11 qm_c12 qm_c13 qm_f
        clear qm
        have qm:=g1.m
        obtain⟨qm_c0,qm_c1,qm_c2,qm_c3,qm_c4,qm_c5,qm_c6,qm_c7,qm_c8,qm_c9,qm_c10,qm_c11,qm_c12,qm_c13⟩:= zbs qm
        have qm_f:=qm.frozen
        have zm:=qm.lt
        go_wp2_with fail
        go_meet
        exact⟨by simp[rfirB,plB]<;> first | rfl | omega,by simp[rplcB],by simpa [rbodL] using g1⟩
  · have qm:=h0.m
    obtain⟨qm_c0,qm_c1,qm_c2,qm_c3,qm_c4,qm_c5,qm_c6,qm_c7,qm_c8,qm_c9,qm_c10,qm_c11,qm_c12,qm_c13⟩:= zbs qm
    have qm_f:=qm.frozen
    have zm:=qm.lt
    go_wp2_with fail
    refine (zkk ix sub sq bl em size code sum n c tg la cr sz A data (w.heap.size+1) (w.heap.size+1) _ hu3 D2 C2 E2 HN.out hn7 (hsW.out _ h0.gr) h0.b hlt1).mono ?_
    rintro e W1 ⟨rfl,hb,hg⟩
    clear zm
    clear qm_c0 qm_c1 qm_c2 qm_c3 qm_c4 qm_c5 qm_c6 qm_c7 qm_c8 qm_c9 qm_c10 qm_c11 qm_c12 qm_c13 qm_f
    clear qm
    have g1:=h0.step hb (by simp[za7,cpL,z8];try omega) hg
    have qm:=g1.m
    obtain⟨qm_c0,qm_c1,qm_c2,qm_c3,qm_c4,qm_c5,qm_c6,qm_c7,qm_c8,qm_c9,qm_c10,qm_c11,qm_c12,qm_c13⟩:= zbs qm
    have qm_f:=qm.frozen
    have zm:=qm.lt
    go_wp2_with fail
    go_meet
    exact⟨by simp[rfirB,plB]<;> first | rfl | omega,by simp[rplcB],by simpa [rbodL] using g1⟩
  · have qm:=h0.m
    obtain⟨qm_c0,qm_c1,qm_c2,qm_c3,qm_c4,qm_c5,qm_c6,qm_c7,qm_c8,qm_c9,qm_c10,qm_c11,qm_c12,qm_c13⟩:= zbs qm
    have qm_f:=qm.frozen
    have zm:=qm.lt
    go_wp2_with fail
    refine (zkm ix sub sq bl em size code sum n c tg la cr sz A data (w.heap.size+1) (w.heap.size+1) _ hu3 D2 C2 E2 HN.out hn7 (hsW.out _ h0.gr) h0.b hlt1).mono ?_
    rintro e W1 ⟨rfl,hb,hg⟩
    clear zm
    clear qm_c0 qm_c1 qm_c2 qm_c3 qm_c4 qm_c5 qm_c6 qm_c7 qm_c8 qm_c9 qm_c10 qm_c11 qm_c12 qm_c13 qm_f
    clear qm
    have g1:=h0.step hb (by simp[za7,cpL,z8];try omega) hg
    have qm:=g1.m
    obtain⟨qm_c0,qm_c1,qm_c2,qm_c3,qm_c4,qm_c5,qm_c6,qm_c7,qm_c8,qm_c9,qm_c10,qm_c11,qm_c12,qm_c13⟩:= zbs qm
    have qm_f:=qm.frozen
    have zm:=qm.lt
    go_wp2_with fail
    go_meet
    exact⟨by simp[rfirB,plB]<;> first | rfl | omega,by simp[rplcB],by simpa [rbodL] using g1⟩
  · have qm:=h0.m
    obtain⟨qm_c0,qm_c1,qm_c2,qm_c3,qm_c4,qm_c5,qm_c6,qm_c7,qm_c8,qm_c9,qm_c10,qm_c11,qm_c12,qm_c13⟩:= zbs qm
    have qm_f:=qm.frozen
    have zm:=qm.lt
    go_wp2_with fail
    refine (zko ix sub sq bl em size code sum n c tg la cr sz A data (w.heap.size+1) (w.heap.size+1) _ hu3 D2 C2 E2 HN.out hn7 (hsW.out _ h0.gr) h0.b hlt1).mono ?_
    rintro e W1 ⟨rfl,hb,hg⟩
    clear zm
    clear qm_c0 qm_c1 qm_c2 qm_c3 qm_c4 qm_c5 qm_c6 qm_c7 qm_c8 qm_c9 qm_c10 qm_c11 qm_c12 qm_c13 qm_f
    clear qm
    have g1:=h0.step hb (by simp[za7,cpL,z8];try omega) hg
    have qm:=g1.m
    obtain⟨qm_c0,qm_c1,qm_c2,qm_c3,qm_c4,qm_c5,qm_c6,qm_c7,qm_c8,qm_c9,qm_c10,qm_c11,qm_c12,qm_c13⟩:= zbs qm
    have qm_f:=qm.frozen
    have zm:=qm.lt
    go_wp2_with fail
    go_meet
    exact⟨by simp[rfirB,plB]<;> first | rfl | omega,by simp[rplcB],by simpa [rbodL] using g1⟩
  · have qm:=h0.m
    obtain⟨qm_c0,qm_c1,qm_c2,qm_c3,qm_c4,qm_c5,qm_c6,qm_c7,qm_c8,qm_c9,qm_c10,qm_c11,qm_c12,qm_c13⟩:= zbs qm
    have qm_f:=qm.frozen
    have zm:=qm.lt
    go_wp2_with fail
    refine (zkp ix sub sq bl em size code sum n c tg la cr sz A data (w.heap.size+1) (w.heap.size+1) _ hu3 D2 C2 E2 HN.out hn7 (hsW.out _ h0.gr) h0.b hlt1).mono ?_
    rintro e W1 ⟨rfl,hb,hg⟩
    clear zm
    clear qm_c0 qm_c1 qm_c2 qm_c3 qm_c4 qm_c5 qm_c6 qm_c7 qm_c8 qm_c9 qm_c10 qm_c11 qm_c12 qm_c13 qm_f
    clear qm
    have g1:=h0.step hb (by simp[za7,cpL,z8];try omega) hg
    have qm:=g1.m
    obtain⟨qm_c0,qm_c1,qm_c2,qm_c3,qm_c4,qm_c5,qm_c6,qm_c7,qm_c8,qm_c9,qm_c10,qm_c11,qm_c12,qm_c13⟩:= zbs qm
    have qm_f:=qm.frozen
    have zm:=qm.lt
    go_wp2_with fail
    go_meet
    exact⟨by simp[rfirB,plB]<;> first | rfl | omega,by simp[rplcB],by simpa [rbodL] using g1⟩
  · have qm:=h0.m
    obtain⟨qm_c0,qm_c1,qm_c2,qm_c3,qm_c4,qm_c5,qm_c6,qm_c7,qm_c8,qm_c9,qm_c10,qm_c11,qm_c12,qm_c13⟩:= zbs qm
    have qm_f:=qm.frozen
    have zm:=qm.lt
    go_wp2_with fail
    refine (zkr ix sub sq bl em size code sum n c tg la cr sz A data (w.heap.size+1) (w.heap.size+1) _ hu3 D2 C2 E2 HN.out hn7 (hsW.out _ h0.gr) h0.b hlt1).mono ?_
    rintro e W1 ⟨rfl,hb,hg⟩
    clear zm
    clear qm_c0 qm_c1 qm_c2 qm_c3 qm_c4 qm_c5 qm_c6 qm_c7 qm_c8 qm_c9 qm_c10 qm_c11 qm_c12 qm_c13 qm_f
    clear qm
    have g1:=h0.step hb (by simp[za7,cpL,z8];try omega) hg
    have qm:=g1.m
    obtain⟨qm_c0,qm_c1,qm_c2,qm_c3,qm_c4,qm_c5,qm_c6,qm_c7,qm_c8,qm_c9,qm_c10,qm_c11,qm_c12,qm_c13⟩:= zbs qm
    have qm_f:=qm.frozen
    have zm:=qm.lt
    go_wp2_with fail
    go_meet
    exact⟨by simp[rfirB,plB]<;> first | rfl | omega,by simp[rplcB],by simpa [rbodL] using g1⟩
  · have qm:=h0.m
    obtain⟨qm_c0,qm_c1,qm_c2,qm_c3,qm_c4,qm_c5,qm_c6,qm_c7,qm_c8,qm_c9,qm_c10,qm_c11,qm_c12,qm_c13⟩:= zbs qm
    have qm_f:=qm.frozen
    have zm:=qm.lt
    go_wp2_with fail
    refine (zkt ix sub sq bl em size code sum n c tg la cr sz A data (w.heap.size+1) (w.heap.size+1) _ hu3 D2 C2 E2 HN.out hn7 (hsW.out _ h0.gr) h0.b hlt1).mono ?_
    rintro e W1 ⟨rfl,hb,hg⟩
    clear zm
    clear qm_c0 qm_c1 qm_c2 qm_c3 qm_c4 qm_c5 qm_c6 qm_c7 qm_c8 qm_c9 qm_c10 qm_c11 qm_c12 qm_c13 qm_f
    clear qm
    have g1:=h0.step hb (by simp[za7,cpL,z8];try omega) hg
    have qm:=g1.m
    obtain⟨qm_c0,qm_c1,qm_c2,qm_c3,qm_c4,qm_c5,qm_c6,qm_c7,qm_c8,qm_c9,qm_c10,qm_c11,qm_c12,qm_c13⟩:= zbs qm
    have qm_f:=qm.frozen
    have zm:=qm.lt
    go_wp2_with fail
    go_meet
    exact⟨by simp[rfirB,plB]<;> first | rfl | omega,by simp[rplcB],by simpa [rbodL] using g1⟩
  · have qm:=h0.m
    obtain⟨qm_c0,qm_c1,qm_c2,qm_c3,qm_c4,qm_c5,qm_c6,qm_c7,qm_c8,qm_c9,qm_c10,qm_c11,qm_c12,qm_c13⟩:= zbs qm
    have qm_f:=qm.frozen
    have zm:=qm.lt
    go_wp2_with fail
    refine (zku ix sub sq bl em size code sum n c tg la cr sz A data (w.heap.size+1) (w.heap.size+1) _ hu3 D2 C2 E2 HN.out hn7 (hsW.out _ h0.gr) h0.b hlt1).mono ?_
    rintro e W1 ⟨rfl,hb,hg⟩
    clear zm
    clear qm_c0 qm_c1 qm_c2 qm_c3 qm_c4 qm_c5 qm_c6 qm_c7 qm_c8 qm_c9 qm_c10 qm_c11 qm_c12 qm_c13 qm_f
    clear qm
    have g1:=h0.step hb (by simp[za7,cpL,z8];try omega) hg
    have qm:=g1.m
    obtain⟨qm_c0,qm_c1,qm_c2,qm_c3,qm_c4,qm_c5,qm_c6,qm_c7,qm_c8,qm_c9,qm_c10,qm_c11,qm_c12,qm_c13⟩:= zbs qm
    have qm_f:=qm.frozen
    have zm:=qm.lt
    go_wp2_with fail
    go_meet
    exact⟨by simp[rfirB,plB]<;> first | rfl | omega,by simp[rplcB],by simpa [rbodL] using g1⟩
 case rest=>
  obtain⟨rfl,rfl,h1⟩:= hcut
  clear h0 hlt1
  obtain⟨x,hx⟩:∃ x,x=rfirB kind n tg la cr sz sq em:=⟨_,rfl⟩
  obtain⟨l,hl⟩:∃ l,l=rbodL kind n size code sq bl sum data:=⟨_,rfl⟩
  obtain⟨pb,hpb⟩:∃ b,b=rplcB kind:=⟨_,rfl⟩
  rw[← hl] at h1
  rw[← hx,← hpb]
  have HLL:Hid (rlaidL kind n ix sub size code sq bl em sum tg la cr sz data=if pb=true then (putL (l.set 0 (UInt8.ofNat x)) 1 2 ix).set 3 (UInt8.ofNat sub) else l.set 0 (UInt8.ofNat x)):= zak (by rw[hx,hl,hpb];rfl)
  clear hx hl hpb
  obtain⟨v0,k0,j0⟩:= h1.b.at8 0 (by omega)
  have h2:=h1.byte 0 (UInt8.ofNat x)
  rw[← zkb] at h2
  have qm:=h1.m
  obtain⟨qm_c0,qm_c1,qm_c2,qm_c3,qm_c4,qm_c5,qm_c6,qm_c7,qm_c8,qm_c9,qm_c10,qm_c11,qm_c12,qm_c13⟩:= zbs qm
  have qm_f:=qm.frozen
  have zm:=qm.lt
  cases pb
  · go_wp2_with fail
    go_ret
    exact⟨_,rfl,by rw[HLL.out];exact⟨h2.b.hn,h2.b.own.mono (by omega)⟩,zb0 hbw1.out h2.gr (by omega) hbw1.out.size⟩
  · go_wp2_with fail
    refine (zkd 1 2 ix h2 (by omega) (by omega)).mono ?_
    rintro e W1 ⟨rfl,g1⟩
    clear zm
    clear qm_c0 qm_c1 qm_c2 qm_c3 qm_c4 qm_c5 qm_c6 qm_c7 qm_c8 qm_c9 qm_c10 qm_c11 qm_c12 qm_c13 qm_f
    clear qm
    have qm:=g1.m
    obtain⟨qm_c0,qm_c1,qm_c2,qm_c3,qm_c4,qm_c5,qm_c6,qm_c7,qm_c8,qm_c9,qm_c10,qm_c11,qm_c12,qm_c13⟩:= zbs qm
    have qm_f:=qm.frozen
    have zm:=qm.lt
    obtain⟨v3,k3,j3⟩:= g1.b.at8 3 (by omega)
    have g2:=g1.byte 3 (UInt8.ofNat sub)
    rw[← zkj (show sub < 256 by omega)] at g2
    go_wp2_with fail
    go_ret
    exact⟨_,rfl,by rw[HLL.out];show zb7 _ _ _ _ _ ((putL (l.set 0 (UInt8.ofNat x)) 1 2 ix).set 3 (UInt8.ofNat sub));exact⟨g2.b.hn,g2.b.own.mono (by omega)⟩,zb0 hbw1.out g2.gr (by omega) hbw1.out.size⟩
end
end Go.Proofs.Ythdbckbpldlkeaa
