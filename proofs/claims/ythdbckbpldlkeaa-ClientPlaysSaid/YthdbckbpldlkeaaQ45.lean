/- None -/
import Derived.Test.YthdbckbpldlkeaaQ40
namespace Go.Proofs.Ythdbckbpldlkeaa
set_option linter.unusedVariables false
set_option linter.unusedSimpArgs false
set_option linter.unnecessarySimpa false
section
open Go.RowKit
set_option maxRecDepth 100000
set_option maxHeartbeats 4000000
theorem znp (k:Int) (A:Option Addr) (n c:Nat) (b:List UInt8) (w:World) (hn:n=b.length) (h8:b.length=8) (hc:n≤c) (hs:Sl w A (b.map bv)) (k1:1≤k) (k2:k≤21) (hg:k=8∨k=16) :
 Calls Try.prog 83 #[.int .i64 k,.slice A n c] w (GuessR k b w):= by
 obtain rfl:n=8:=by omega
 obtain⟨b0,b1,b2,b3,b4,b5,b6,b7,rfl⟩:∃ b0 b1 b2 b3 b4 b5 b6 b7:UInt8,b= [b0,b1,b2,b3,b4,b5,b6,b7]:= by
  rcases b with _ | ⟨b0,_ | ⟨b1,_ | ⟨b2,_ | ⟨b3,_ | ⟨b4,_ | ⟨b5,_ | ⟨b6,_ | ⟨b7,r⟩⟩⟩⟩⟩⟩⟩⟩<;> simp at h8 ⊢
  exact h8
 have q1:=hs.byte_ (j:=0) (by simp)
 obtain⟨gb,go,rfl,r0⟩:= q1
 have r1:=hs.byte_ (j:=1) (by simp)
 obtain⟨gc,gd,z1,r1⟩:= r1
 injection z1 with z1
 injection z1 with z1 z1'
 subst z1 z1'
 have r2:=hs.byte_ (j:=2) (by simp)
 obtain⟨gc,gd,z1,r2⟩:= r2
 injection z1 with z1
 injection z1 with z1 z1'
 subst z1 z1'
 have r3:=hs.byte_ (j:=3) (by simp)
 obtain⟨gc,gd,z1,r3⟩:= r3
 injection z1 with z1
 injection z1 with z1 z1'
 subst z1 z1'
 have r4:=hs.byte_ (j:=4) (by simp)
 obtain⟨gc,gd,z1,r4⟩:= r4
 injection z1 with z1
 injection z1 with z1 z1'
 subst z1 z1'
 simp only[List.getElem_cons_zero,List.getElem_cons_succ,Nat.add_zero] at r0 r1 r2 r3 r4
 have lgb:gb < w.heap.size:=zal r0
 have HG1:=zak (fun W h=>zne (some ⟨gb,go,none⟩) 8 c [b0,b1,b2,b3,b4,b5,b6,b7] 1 2 W hn hc (by omega) (by omega) (by omega) (by omega) (by omega) h)
 have HG4:=zak (fun W h=>zne (some ⟨gb,go,none⟩) 8 c [b0,b1,b2,b3,b4,b5,b6,b7] 4 4 W hn hc (by omega) (by omega) (by omega) (by omega) (by omega) h)
 have HN:=zak hn
 have hb0:=b0.toNat_lt
 have hb1:=b1.toNat_lt
 have hb2:=b2.toNat_lt
 have hb3:=b3.toNat_lt
 have hb4:=b4.toNat_lt
 have HX4:Hid (IntKind.u32.wrap ((leN [b4,b5,b6,b7]:Nat):Int)=((leN [b4,b5,b6,b7]:Nat):Int)):= zak (zd3 (by have:=zan [b4,b5,b6,b7];simp only[List.length_cons,List.length_nil] at this;omega)).2.1
 have HX2:Hid (IntKind.u16.wrap ((leN [b1,b2]:Nat):Int)=((leN [b1,b2]:Nat):Int)):= zak (by have:=zan [b1,b2];simp only[List.length_cons,List.length_nil] at this;rw[IntKind.wrap_u16];omega)
 have HGG:=zak hg
 clear hg
 clear hn h8
 have q0:=zbu w 72 #[.int .i64 0,.int .i64 0,.int .i64 0,.bool false,.bool false,.bool false,.bool false,.int .u32 0,.int .u32 0,.slice none 0 0,.int .i64 0,.int .i64 0,.int .i64 0,.int .u16 0]
 have hbw:Below w.heap.size w (w.alloc (.cells #[.int .i64 0,.int .i64 0,.int .i64 0,.bool false,.bool false,.bool false,.bool false,.int .u32 0,.int .u32 0,.slice none 0 0,.int .i64 0,.int .i64 0,.int .i64 0,.int .u16 0] 72)):= (by repeat' (first | with_reducible assumption | with_reducible exact Below.refl _ _ | with_reducible apply zbp | with_reducible apply zb3 | with_reducible apply zb2 | (with_reducible apply zbo;with_reducible assumption) | (with_reducible apply zb4;(first | exact Nat.le_refl _ | (simp;done) | omega))))
 have hs1:Sl (w.alloc (.cells #[.int .i64 0,.int .i64 0,.int .i64 0,.bool false,.bool false,.bool false,.bool false,.int .u32 0,.int .u32 0,.slice none 0 0,.int .i64 0,.int .i64 0,.int .i64 0,.int .u16 0] 72)) _ _:=hs.alloc _
 go_enter Try.func83,Try.ntmps83
 go_upto_region 2 with fail
 have hsz0:=q0.lt
 replace r0:=(zbq hbw).1 _ lgb |>.trans r0
 replace r1:=(zbq hbw).1 ⟨gb,go+1,none⟩ lgb |>.trans r1
 replace r2:=(zbq hbw).1 ⟨gb,go+2,none⟩ lgb |>.trans r2
 replace r3:=(zbq hbw).1 ⟨gb,go+3,none⟩ lgb |>.trans r3
 replace r4:=(zbq hbw).1 ⟨gb,go+4,none⟩ lgb |>.trans r4
 generalize w.alloc (.cells #[.int .i64 0,.int .i64 0,.int .i64 0,.bool false,.bool false,.bool false,.bool false,.int .u32 0,.int .u32 0,.slice none 0 0,.int .i64 0,.int .i64 0,.int .i64 0,.int .u16 0] 72)=W at *
 have lgb1:gb < W.heap.size:=by omega
 go_cut [6] (fun p wx=>RGuessC k b0 b1 b2 b3 b4 b5 b6 b7 W p wx)
 case first=>
  go_wp2_with fail
  refine wp_region_held_drew (S:=(fun w'=>(∀ qA:Addr,qA.block < (W).heap.size→w'.cell? qA=(W).cell? qA)∧ Below (W).heap.size (W) w')) (by kernel_rfl) ?hS1 (fun hHeld=>?rest1)
  case hS1=>((try dsimp only);(((try go_split_ands);refine zbn ?_;repeat' (first | with_reducible assumption | with_reducible exact Below.refl _ _ | with_reducible apply zbp | with_reducible apply zb3 | with_reducible apply zb2 | (with_reducible apply zbo;with_reducible assumption) | (with_reducible apply zb4;(first | exact Nat.le_refl _ | (simp;done) | omega))))))
  case' rest1=>skip
  iterate 2 (refine tkN ?_;try simp only[PqL,Act.put])
  refine tkH 3 ?_
  try simp only[PqL,Act.put]
  refine tkH 4 ?_
  try simp only[PqL,Act.put]
  refine tkH 5 ?_
  try simp only[PqL,Act.put]
  refine tkH 6 ?_
  try simp only[PqL,Act.put]
  refine tkH 7 ?_
  try simp only[PqL,Act.put]
  refine tkH 8 ?_
  try simp only[PqL,Act.put]
  refine tkH 9 ?_
  try simp only[PqL,Act.put]
  refine tkH 10 ?_
  try simp only[PqL,Act.put]
  refine tkH 11 ?_
  try simp only[PqL,Act.put]
  refine tkH 12 ?_
  try simp only[PqL,Act.put]
  refine tkH 13 ?_
  try simp only[PqL,Act.put]
  refine tkH 14 ?_
  try simp only[PqL,Act.put]
  refine tkH 15 ?_
  try simp only[PqL,Act.put]
  refine tkH 16 ?_
  try simp only[PqL,Act.put]
  refine tkH 17 ?_
  try simp only[PqL,Act.put]
  refine tkH 18 ?_
  try simp only[PqL,Act.put]
  refine tkH 21 ?_
  try simp only[PqL,Act.put]
  refine tkH 24 ?_
  try simp only[PqL,Act.put]
  refine tkH 25 ?_
  try simp only[PqL,Act.put]
  refine tkH 26 ?_
  try simp only[PqL,Act.put]
  refine tkH 27 ?_
  try simp only[PqL,Act.put]
  refine tkH 28 ?_
  try simp only[PqL,Act.put]
  refine tkH 29 ?_
  try simp only[PqL,Act.put]
  refine tkH 30 ?_
  try simp only[PqL,Act.put]
  refine tkH 31 ?_
  try simp only[PqL,Act.put]
  refine tkH 32 ?_
  try simp only[PqL,Act.put]
  refine tkH 33 ?_
  try simp only[PqL,Act.put]
  refine tkH 34 ?_
  try simp only[PqL,Act.put]
  refine tkH 35 ?_
  try simp only[PqL,Act.put]
  refine wpAnyH_ready (rs:= [2,39]) (by kernel_rfl) (by simp) ?_
  refine AllReadyH.cons (o:=_) rfl (fun K hK=>?_) (AllReadyH.cons (o:=_) rfl (fun K hK=>?_) AllReadyH.nil)
  · go_simp
    refine (HG1.out _ (by repeat (first | exact hs1 | exact hs1.drew | apply Sl.alloc | apply Sl.drew))).mono ?_
    rintro e w3 ⟨rfl,rfl⟩
    try dsimp only
    refine hK.out _ _ ?hS33 (fun hHeld=>?rest33)
    case hS33=>((try dsimp only);(((try go_split_ands);refine zbn ?_;repeat' (first | with_reducible assumption | with_reducible exact Below.refl _ _ | with_reducible apply zbp | with_reducible apply zb3 | with_reducible apply zb2 | (with_reducible apply zbo;with_reducible assumption) | (with_reducible apply zb4;(first | exact Nat.le_refl _ | (simp;done) | omega))))))
    case' rest33=>(clear hK K;try simp only[PqL,Act.put])
    refine wpAnyH_ready (rs:= [19,39]) (by kernel_rfl) (by simp) ?_
    refine AllReadyH.cons (o:=_) rfl (fun K hK=>?_) (AllReadyH.cons (o:=_) rfl (fun K hK=>?_) AllReadyH.nil)
    · go_simp
      refine (HG4.out _ (by repeat (first | exact hs1 | exact hs1.drew | apply Sl.alloc | apply Sl.drew))).mono ?_
      rintro e w3 ⟨rfl,rfl⟩
      try dsimp only
      refine hK.out _ _ ?hS34 (fun hHeld=>?rest34)
      case hS34=>((try dsimp only);(((try go_split_ands);refine zbn ?_;repeat' (first | with_reducible assumption | with_reducible exact Below.refl _ _ | with_reducible apply zbp | with_reducible apply zb3 | with_reducible apply zb2 | (with_reducible apply zbo;with_reducible assumption) | (with_reducible apply zb4;(first | exact Nat.le_refl _ | (simp;done) | omega))))))
      case' rest34=>(clear hK K;try simp only[PqL,Act.put])
      refine tkH 20 ?_
      try simp only[PqL,Act.put]
      refine wpAnyH_ready (rs:= [22,39]) (by kernel_rfl) (by simp) ?_
      refine AllReadyH.cons (o:=_) rfl (fun K hK=>?_) (AllReadyH.cons (o:=_) rfl (fun K hK=>?_) AllReadyH.nil)
      · go_simp
        refine (HG4.out _ (by repeat (first | exact hs1 | exact hs1.drew | apply Sl.alloc | apply Sl.drew))).mono ?_
        rintro e w3 ⟨rfl,rfl⟩
        try dsimp only
        refine hK.out _ _ ?hS36 (fun hHeld=>?rest36)
        case hS36=>((try dsimp only);(((try go_split_ands);refine zbn ?_;repeat' (first | with_reducible assumption | with_reducible exact Below.refl _ _ | with_reducible apply zbp | with_reducible apply zb3 | with_reducible apply zb2 | (with_reducible apply zbo;with_reducible assumption) | (with_reducible apply zb4;(first | exact Nat.le_refl _ | (simp;done) | omega))))))
        case' rest36=>(clear hK K;try simp only[PqL,Act.put])
        refine tkH 23 ?_
        try simp only[PqL,Act.put]
        refine wpAnyH_ready (rs:= [36,39]) (by kernel_rfl) (by simp) ?_
        refine AllReadyH.cons (o:=_) rfl (fun K hK=>?_) (AllReadyH.cons (o:=_) rfl (fun K hK=>?_) AllReadyH.nil)
        · go_simp
          refine (HG1.out _ (by repeat (first | exact hs1 | exact hs1.drew | apply Sl.alloc | apply Sl.drew))).mono ?_
          rintro e w3 ⟨rfl,rfl⟩
          try dsimp only
          refine hK.out _ _ ?hS38 (fun hHeld=>?rest38)
          case hS38=>((try dsimp only);(((try go_split_ands);refine zbn ?_;repeat' (first | with_reducible assumption | with_reducible exact Below.refl _ _ | with_reducible apply zbp | with_reducible apply zb3 | with_reducible apply zb2 | (with_reducible apply zbo;with_reducible assumption) | (with_reducible apply zb4;(first | exact Nat.le_refl _ | (simp;done) | omega))))))
          case' rest38=>(clear hK K;try simp only[PqL,Act.put])
          refine tkH 37 ?_
          try simp only[PqL,Act.put]
          refine tkH 38 ?_
          try simp only[PqL,Act.put]
          refine wpAnyH_ready (rs:= [39]) (by kernel_rfl) (by simp) ?_
          refine AllReadyH.cons (o:=_) rfl (fun K hK=>?_) AllReadyH.nil
          go_simp
          refine hK.out _ _ ?hS43 (fun hHeld=>?rest43)
          case hS43=>((try dsimp only);(((try go_split_ands);refine zbn ?_;repeat' (first | with_reducible assumption | with_reducible exact Below.refl _ _ | with_reducible apply zbp | with_reducible apply zb3 | with_reducible apply zb2 | (with_reducible apply zbo;with_reducible assumption) | (with_reducible apply zb4;(first | exact Nat.le_refl _ | (simp;done) | omega))))))
          case' rest43=>(clear hK K;try simp only[PqL,Act.put])
          refine wpAnyH_ready (rs:= [40]) (by kernel_rfl) (by simp) ?_
          refine AllReadyH.cons (o:=_) rfl (fun K hK=>?_) AllReadyH.nil
          go_simp
          refine hK.out _ _ ?hS46 (fun hHeld=>?rest46)
          case hS46=>((try dsimp only);(((try go_split_ands);refine zbn ?_;repeat' (first | with_reducible assumption | with_reducible exact Below.refl _ _ | with_reducible apply zbp | with_reducible apply zb3 | with_reducible apply zb2 | (with_reducible apply zbo;with_reducible assumption) | (with_reducible apply zb4;(first | exact Nat.le_refl _ | (simp;done) | omega))))))
          case' rest46=>(clear hK K;try simp only[PqL,Act.put])
          refine wpAnyH_done (by kernel_rfl) ?_ _
          have hEnd:=hHeld.2
          repeat (clear hHeld)
          clear hEnd
          go_wp2_with fail
          go_meet
          rw[zng];exact⟨rfl,by first | exact Blk.new W 72 _ | exact Blk.new W.drew 72 _,(by repeat' (first | with_reducible assumption | with_reducible exact Below.refl _ _ | with_reducible apply zbp | with_reducible apply zb3 | with_reducible apply zb2 | (with_reducible apply zbo;with_reducible assumption) | (with_reducible apply zb4;(first | exact Nat.le_refl _ | (simp;done) | omega))))⟩
        · go_simp
          refine hK.out _ _ ?hS901 (fun hHeld=>?rest901)
          case hS901=>((try dsimp only);(((try go_split_ands);refine zbn ?_;repeat' (first | with_reducible assumption | with_reducible exact Below.refl _ _ | with_reducible apply zbp | with_reducible apply zb3 | with_reducible apply zb2 | (with_reducible apply zbo;with_reducible assumption) | (with_reducible apply zb4;(first | exact Nat.le_refl _ | (simp;done) | omega))))))
          case' rest901=>(clear hK K;try simp only[PqL,Act.put])
          refine wpAnyH_ready (rs:= [36]) (by kernel_rfl) (by simp) ?_
          refine AllReadyH.cons (o:=_) rfl (fun K hK=>?_) AllReadyH.nil
          go_simp
          refine (HG1.out _ (by repeat (first | exact hs1 | exact hs1.drew | apply Sl.alloc | apply Sl.drew))).mono ?_
          rintro e w3 ⟨rfl,rfl⟩
          try dsimp only
          refine hK.out _ _ ?hS50 (fun hHeld=>?rest50)
          case hS50=>((try dsimp only);(((try go_split_ands);refine zbn ?_;repeat' (first | with_reducible assumption | with_reducible exact Below.refl _ _ | with_reducible apply zbp | with_reducible apply zb3 | with_reducible apply zb2 | (with_reducible apply zbo;with_reducible assumption) | (with_reducible apply zb4;(first | exact Nat.le_refl _ | (simp;done) | omega))))))
          case' rest50=>(clear hK K;try simp only[PqL,Act.put])
          refine tkH 37 ?_
          try simp only[PqL,Act.put]
          refine tkH 38 ?_
          try simp only[PqL,Act.put]
          refine wpAnyH_ready (rs:= [40]) (by kernel_rfl) (by simp) ?_
          refine AllReadyH.cons (o:=_) rfl (fun K hK=>?_) AllReadyH.nil
          go_simp
          refine hK.out _ _ ?hS55 (fun hHeld=>?rest55)
          case hS55=>((try dsimp only);(((try go_split_ands);refine zbn ?_;repeat' (first | with_reducible assumption | with_reducible exact Below.refl _ _ | with_reducible apply zbp | with_reducible apply zb3 | with_reducible apply zb2 | (with_reducible apply zbo;with_reducible assumption) | (with_reducible apply zb4;(first | exact Nat.le_refl _ | (simp;done) | omega))))))
          case' rest55=>(clear hK K;try simp only[PqL,Act.put])
          refine wpAnyH_done (by kernel_rfl) ?_ _
          have hEnd:=hHeld.2
          repeat (clear hHeld)
          clear hEnd
          go_wp2_with fail
          go_meet
          rw[zng];exact⟨rfl,by first | exact Blk.new W 72 _ | exact Blk.new W.drew 72 _,(by repeat' (first | with_reducible assumption | with_reducible exact Below.refl _ _ | with_reducible apply zbp | with_reducible apply zb3 | with_reducible apply zb2 | (with_reducible apply zbo;with_reducible assumption) | (with_reducible apply zb4;(first | exact Nat.le_refl _ | (simp;done) | omega))))⟩
      · go_simp
        refine hK.out _ _ ?hS902 (fun hHeld=>?rest902)
        case hS902=>((try dsimp only);(((try go_split_ands);refine zbn ?_;repeat' (first | with_reducible assumption | with_reducible exact Below.refl _ _ | with_reducible apply zbp | with_reducible apply zb3 | with_reducible apply zb2 | (with_reducible apply zbo;with_reducible assumption) | (with_reducible apply zb4;(first | exact Nat.le_refl _ | (simp;done) | omega))))))
        case' rest902=>(clear hK K;try simp only[PqL,Act.put])
        refine wpAnyH_ready (rs:= [22]) (by kernel_rfl) (by simp) ?_
        refine AllReadyH.cons (o:=_) rfl (fun K hK=>?_) AllReadyH.nil
        go_simp
        refine (HG4.out _ (by repeat (first | exact hs1 | exact hs1.drew | apply Sl.alloc | apply Sl.drew))).mono ?_
        rintro e w3 ⟨rfl,rfl⟩
        try dsimp only
        refine hK.out _ _ ?hS59 (fun hHeld=>?rest59)
        case hS59=>((try dsimp only);(((try go_split_ands);refine zbn ?_;repeat' (first | with_reducible assumption | with_reducible exact Below.refl _ _ | with_reducible apply zbp | with_reducible apply zb3 | with_reducible apply zb2 | (with_reducible apply zbo;with_reducible assumption) | (with_reducible apply zb4;(first | exact Nat.le_refl _ | (simp;done) | omega))))))
        case' rest59=>(clear hK K;try simp only[PqL,Act.put])
        refine tkH 23 ?_
        try simp only[PqL,Act.put]
        refine wpAnyH_ready (rs:= [36]) (by kernel_rfl) (by simp) ?_
        refine AllReadyH.cons (o:=_) rfl (fun K hK=>?_) AllReadyH.nil
        go_simp
        refine (HG1.out _ (by repeat (first | exact hs1 | exact hs1.drew | apply Sl.alloc | apply Sl.drew))).mono ?_
        rintro e w3 ⟨rfl,rfl⟩
        try dsimp only
        refine hK.out _ _ ?hS63 (fun hHeld=>?rest63)
        case hS63=>((try dsimp only);(((try go_split_ands);refine zbn ?_;repeat' (first | with_reducible assumption | with_reducible exact Below.refl _ _ | with_reducible apply zbp | with_reducible apply zb3 | with_reducible apply zb2 | (with_reducible apply zbo;with_reducible assumption) | (with_reducible apply zb4;(first | exact Nat.le_refl _ | (simp;done) | omega))))))
        case' rest63=>(clear hK K;try simp only[PqL,Act.put])
        refine tkH 37 ?_
        try simp only[PqL,Act.put]
        refine tkH 38 ?_
        try simp only[PqL,Act.put]
        refine wpAnyH_ready (rs:= [40]) (by kernel_rfl) (by simp) ?_
        refine AllReadyH.cons (o:=_) rfl (fun K hK=>?_) AllReadyH.nil
        go_simp
        refine hK.out _ _ ?hS68 (fun hHeld=>?rest68)
        case hS68=>((try dsimp only);(((try go_split_ands);refine zbn ?_;repeat' (first | with_reducible assumption | with_reducible exact Below.refl _ _ | with_reducible apply zbp | with_reducible apply zb3 | with_reducible apply zb2 | (with_reducible apply zbo;with_reducible assumption) | (with_reducible apply zb4;(first | exact Nat.le_refl _ | (simp;done) | omega))))))
        case' rest68=>(clear hK K;try simp only[PqL,Act.put])
        refine wpAnyH_done (by kernel_rfl) ?_ _
        have hEnd:=hHeld.2
        repeat (clear hHeld)
        clear hEnd
        go_wp2_with fail
        go_meet
        rw[zng];exact⟨rfl,by first | exact Blk.new W 72 _ | exact Blk.new W.drew 72 _,(by repeat' (first | with_reducible assumption | with_reducible exact Below.refl _ _ | with_reducible apply zbp | with_reducible apply zb3 | with_reducible apply zb2 | (with_reducible apply zbo;with_reducible assumption) | (with_reducible apply zb4;(first | exact Nat.le_refl _ | (simp;done) | omega))))⟩
    · go_simp
      refine hK.out _ _ ?hS903 (fun hHeld=>?rest903)
      case hS903=>((try dsimp only);(((try go_split_ands);refine zbn ?_;repeat' (first | with_reducible assumption | with_reducible exact Below.refl _ _ | with_reducible apply zbp | with_reducible apply zb3 | with_reducible apply zb2 | (with_reducible apply zbo;with_reducible assumption) | (with_reducible apply zb4;(first | exact Nat.le_refl _ | (simp;done) | omega))))))
      case' rest903=>(clear hK K;try simp only[PqL,Act.put])
      refine wpAnyH_ready (rs:= [19]) (by kernel_rfl) (by simp) ?_
      refine AllReadyH.cons (o:=_) rfl (fun K hK=>?_) AllReadyH.nil
      go_simp
      refine (HG4.out _ (by repeat (first | exact hs1 | exact hs1.drew | apply Sl.alloc | apply Sl.drew))).mono ?_
      rintro e w3 ⟨rfl,rfl⟩
      try dsimp only
      refine hK.out _ _ ?hS72 (fun hHeld=>?rest72)
      case hS72=>((try dsimp only);(((try go_split_ands);refine zbn ?_;repeat' (first | with_reducible assumption | with_reducible exact Below.refl _ _ | with_reducible apply zbp | with_reducible apply zb3 | with_reducible apply zb2 | (with_reducible apply zbo;with_reducible assumption) | (with_reducible apply zb4;(first | exact Nat.le_refl _ | (simp;done) | omega))))))
      case' rest72=>(clear hK K;try simp only[PqL,Act.put])
      refine tkH 20 ?_
      try simp only[PqL,Act.put]
      refine wpAnyH_ready (rs:= [22]) (by kernel_rfl) (by simp) ?_
      refine AllReadyH.cons (o:=_) rfl (fun K hK=>?_) AllReadyH.nil
      go_simp
      refine (HG4.out _ (by repeat (first | exact hs1 | exact hs1.drew | apply Sl.alloc | apply Sl.drew))).mono ?_
      rintro e w3 ⟨rfl,rfl⟩
      try dsimp only
      refine hK.out _ _ ?hS76 (fun hHeld=>?rest76)
      case hS76=>((try dsimp only);(((try go_split_ands);refine zbn ?_;repeat' (first | with_reducible assumption | with_reducible exact Below.refl _ _ | with_reducible apply zbp | with_reducible apply zb3 | with_reducible apply zb2 | (with_reducible apply zbo;with_reducible assumption) | (with_reducible apply zb4;(first | exact Nat.le_refl _ | (simp;done) | omega))))))
      case' rest76=>(clear hK K;try simp only[PqL,Act.put])
      refine tkH 23 ?_
      try simp only[PqL,Act.put]
      refine wpAnyH_ready (rs:= [36]) (by kernel_rfl) (by simp) ?_
      refine AllReadyH.cons (o:=_) rfl (fun K hK=>?_) AllReadyH.nil
      go_simp
      refine (HG1.out _ (by repeat (first | exact hs1 | exact hs1.drew | apply Sl.alloc | apply Sl.drew))).mono ?_
      rintro e w3 ⟨rfl,rfl⟩
      try dsimp only
      refine hK.out _ _ ?hS80 (fun hHeld=>?rest80)
      case hS80=>((try dsimp only);(((try go_split_ands);refine zbn ?_;repeat' (first | with_reducible assumption | with_reducible exact Below.refl _ _ | with_reducible apply zbp | with_reducible apply zb3 | with_reducible apply zb2 | (with_reducible apply zbo;with_reducible assumption) | (with_reducible apply zb4;(first | exact Nat.le_refl _ | (simp;done) | omega))))))
      case' rest80=>(clear hK K;try simp only[PqL,Act.put])
      refine tkH 37 ?_
      try simp only[PqL,Act.put]
      refine tkH 38 ?_
      try simp only[PqL,Act.put]
      refine wpAnyH_ready (rs:= [40]) (by kernel_rfl) (by simp) ?_
      refine AllReadyH.cons (o:=_) rfl (fun K hK=>?_) AllReadyH.nil
      go_simp
      refine hK.out _ _ ?hS85 (fun hHeld=>?rest85)
      case hS85=>((try dsimp only);(((try go_split_ands);refine zbn ?_;repeat' (first | with_reducible assumption | with_reducible exact Below.refl _ _ | with_reducible apply zbp | with_reducible apply zb3 | with_reducible apply zb2 | (with_reducible apply zbo;with_reducible assumption) | (with_reducible apply zb4;(first | exact Nat.le_refl _ | (simp;done) | omega))))))
      case' rest85=>(clear hK K;try simp only[PqL,Act.put])
      refine wpAnyH_done (by kernel_rfl) ?_ _
      have hEnd:=hHeld.2
      repeat (clear hHeld)
      clear hEnd
      go_wp2_with fail
      go_meet
      rw[zng];exact⟨rfl,by first | exact Blk.new W 72 _ | exact Blk.new W.drew 72 _,(by repeat' (first | with_reducible assumption | with_reducible exact Below.refl _ _ | with_reducible apply zbp | with_reducible apply zb3 | with_reducible apply zb2 | (with_reducible apply zbo;with_reducible assumption) | (with_reducible apply zb4;(first | exact Nat.le_refl _ | (simp;done) | omega))))⟩
  · go_simp
    refine hK.out _ _ ?hS904 (fun hHeld=>?rest904)
    case hS904=>((try dsimp only);(((try go_split_ands);refine zbn ?_;repeat' (first | with_reducible assumption | with_reducible exact Below.refl _ _ | with_reducible apply zbp | with_reducible apply zb3 | with_reducible apply zb2 | (with_reducible apply zbo;with_reducible assumption) | (with_reducible apply zb4;(first | exact Nat.le_refl _ | (simp;done) | omega))))))
    case' rest904=>(clear hK K;try simp only[PqL,Act.put])
    refine wpAnyH_ready (rs:= [2]) (by kernel_rfl) (by simp) ?_
    refine AllReadyH.cons (o:=_) rfl (fun K hK=>?_) AllReadyH.nil
    go_simp
    refine (HG1.out _ (by repeat (first | exact hs1 | exact hs1.drew | apply Sl.alloc | apply Sl.drew))).mono ?_
    rintro e w3 ⟨rfl,rfl⟩
    try dsimp only
    refine hK.out _ _ ?hS89 (fun hHeld=>?rest89)
    case hS89=>((try dsimp only);(((try go_split_ands);refine zbn ?_;repeat' (first | with_reducible assumption | with_reducible exact Below.refl _ _ | with_reducible apply zbp | with_reducible apply zb3 | with_reducible apply zb2 | (with_reducible apply zbo;with_reducible assumption) | (with_reducible apply zb4;(first | exact Nat.le_refl _ | (simp;done) | omega))))))
    case' rest89=>(clear hK K;try simp only[PqL,Act.put])
    refine wpAnyH_ready (rs:= [19]) (by kernel_rfl) (by simp) ?_
    refine AllReadyH.cons (o:=_) rfl (fun K hK=>?_) AllReadyH.nil
    go_simp
    refine (HG4.out _ (by repeat (first | exact hs1 | exact hs1.drew | apply Sl.alloc | apply Sl.drew))).mono ?_
    rintro e w3 ⟨rfl,rfl⟩
    try dsimp only
    refine hK.out _ _ ?hS92 (fun hHeld=>?rest92)
    case hS92=>((try dsimp only);(((try go_split_ands);refine zbn ?_;repeat' (first | with_reducible assumption | with_reducible exact Below.refl _ _ | with_reducible apply zbp | with_reducible apply zb3 | with_reducible apply zb2 | (with_reducible apply zbo;with_reducible assumption) | (with_reducible apply zb4;(first | exact Nat.le_refl _ | (simp;done) | omega))))))
    case' rest92=>(clear hK K;try simp only[PqL,Act.put])
    refine tkH 20 ?_
    try simp only[PqL,Act.put]
    refine wpAnyH_ready (rs:= [22]) (by kernel_rfl) (by simp) ?_
    refine AllReadyH.cons (o:=_) rfl (fun K hK=>?_) AllReadyH.nil
    go_simp
    refine (HG4.out _ (by repeat (first | exact hs1 | exact hs1.drew | apply Sl.alloc | apply Sl.drew))).mono ?_
    rintro e w3 ⟨rfl,rfl⟩
    try dsimp only
    refine hK.out _ _ ?hS96 (fun hHeld=>?rest96)
    case hS96=>((try dsimp only);(((try go_split_ands);refine zbn ?_;repeat' (first | with_reducible assumption | with_reducible exact Below.refl _ _ | with_reducible apply zbp | with_reducible apply zb3 | with_reducible apply zb2 | (with_reducible apply zbo;with_reducible assumption) | (with_reducible apply zb4;(first | exact Nat.le_refl _ | (simp;done) | omega))))))
    case' rest96=>(clear hK K;try simp only[PqL,Act.put])
    refine tkH 23 ?_
    try simp only[PqL,Act.put]
    refine wpAnyH_ready (rs:= [36]) (by kernel_rfl) (by simp) ?_
    refine AllReadyH.cons (o:=_) rfl (fun K hK=>?_) AllReadyH.nil
    go_simp
    refine (HG1.out _ (by repeat (first | exact hs1 | exact hs1.drew | apply Sl.alloc | apply Sl.drew))).mono ?_
    rintro e w3 ⟨rfl,rfl⟩
    try dsimp only
    refine hK.out _ _ ?hS100 (fun hHeld=>?rest100)
    case hS100=>((try dsimp only);(((try go_split_ands);refine zbn ?_;repeat' (first | with_reducible assumption | with_reducible exact Below.refl _ _ | with_reducible apply zbp | with_reducible apply zb3 | with_reducible apply zb2 | (with_reducible apply zbo;with_reducible assumption) | (with_reducible apply zb4;(first | exact Nat.le_refl _ | (simp;done) | omega))))))
    case' rest100=>(clear hK K;try simp only[PqL,Act.put])
    refine tkH 37 ?_
    try simp only[PqL,Act.put]
    refine tkH 38 ?_
    try simp only[PqL,Act.put]
    refine wpAnyH_ready (rs:= [40]) (by kernel_rfl) (by simp) ?_
    refine AllReadyH.cons (o:=_) rfl (fun K hK=>?_) AllReadyH.nil
    go_simp
    refine hK.out _ _ ?hS105 (fun hHeld=>?rest105)
    case hS105=>((try dsimp only);(((try go_split_ands);refine zbn ?_;repeat' (first | with_reducible assumption | with_reducible exact Below.refl _ _ | with_reducible apply zbp | with_reducible apply zb3 | with_reducible apply zb2 | (with_reducible apply zbo;with_reducible assumption) | (with_reducible apply zb4;(first | exact Nat.le_refl _ | (simp;done) | omega))))))
    case' rest105=>(clear hK K;try simp only[PqL,Act.put])
    refine wpAnyH_done (by kernel_rfl) ?_ _
    have hEnd:=hHeld.2
    repeat (clear hHeld)
    clear hEnd
    go_wp2_with fail
    go_meet
    rw[zng];exact⟨rfl,by first | exact Blk.new W 72 _ | exact Blk.new W.drew 72 _,(by repeat' (first | with_reducible assumption | with_reducible exact Below.refl _ _ | with_reducible apply zbp | with_reducible apply zb3 | with_reducible apply zb2 | (with_reducible apply zbo;with_reducible assumption) | (with_reducible apply zb4;(first | exact Nat.le_refl _ | (simp;done) | omega))))⟩
 case rest=>
  obtain⟨rfl,qm,hbx⟩:= hcut
  simp only[msV] at qm
  have r4x:=(zbq hbx).1 ⟨gb,go+4,none⟩ lgb1 |>.trans r4
  have q0x:=q0.below hbx hsz0
  have hzx:=qm.lt
  clear r0 r1 r2 r3 r4
  rcases HGG.out with rfl | rfl
  · skip
    have hG:=rg_8 b0 b1 b2 b3 b4 b5 b6 b7
    have HGK:=zak hG
    clear hG
    skip
    obtain⟨qm_c0,qm_c1,qm_c2,qm_c3,qm_c4,qm_c5,qm_c6,qm_c7,qm_c8,qm_c9,qm_c10,qm_c11,qm_c12,qm_c13⟩:= zbs qm
    have qm_f:=qm.frozen
    have e1:((b0.toNat:Int) % 2 == 1)=decide (b0.toNat % 2=1):= by rw[Bool.eq_iff_iff];simp;omega
    have e2:((b0.toNat:Int) / 2 % 2 == 1)=decide (b0.toNat / 2 % 2=1):= by rw[Bool.eq_iff_iff];simp;omega
    go_wp2_with fail
    have hG:=HGK.out
    refine (zjs ⟨8,(leN [b1,b2]:Nat),(b3.toNat:Int),decide (b0.toNat / 16 % 2=1),decide (b0.toNat % 2=1),decide (b0.toNat / 4 % 2=1),false,leN [b4,b5,b6,b7],leN [b4,b5,b6,b7],[],(b1.toNat:Int),(b4.toNat:Int),(b0.toNat:Int) / 4 % 8,leN [b1,b2]⟩ none 0 0 _ rfl (by first | exact k1 | decide) (by first | exact k2 | decide)).mono ?_
    rintro e w6 ⟨rfl,hb6⟩
    have hbx6:Below W.heap.size W w6:=by refine zbo hb6 ?_;repeat (first | exact hbx | refine zb4 (Nat.le_refl _) ?_ | refine zb3 ?_)
    have q1x:=q0.below hbx6 hsz0
    obtain⟨N,hN⟩:∃ N,N=guessM 8 [b0,b1,b2,b3,b4,b5,b6,b7]:= ⟨_,rfl⟩
    have hd:N.data= []:= by rw[hN,hG];rfl
    rw[show formI (Ms.kind ⟨8,(leN [b1,b2]:Nat),(b3.toNat:Int),decide (b0.toNat / 16 % 2=1),decide (b0.toNat % 2=1),decide (b0.toNat / 4 % 2=1),false,leN [b4,b5,b6,b7],leN [b4,b5,b6,b7],[],(b1.toNat:Int),(b4.toNat:Int),(b0.toNat:Int) / 4 % 8,leN [b1,b2]⟩)=8 from rfl,← hG,← hN]
    rw[show dataB 8=false from rfl]
    have hb7:=zbo hbx6 hbw
    have HN2:=zak hN
    have HD:=zak hd
    clear hN hd hG
    clear qm_c0 qm_c1 qm_c2 qm_c3 qm_c4 qm_c5 qm_c6 qm_c7 qm_c8 qm_c9 qm_c10 qm_c11 qm_c12 qm_c13 qm_f
    obtain⟨q1x_c0,q1x_c1,q1x_c2,q1x_c3,q1x_c4,q1x_c5,q1x_c6,q1x_c7,q1x_c8,q1x_c9,q1x_c10,q1x_c11,q1x_c12,q1x_c13⟩:= zbs q1x
    have q1x_f:=q1x.frozen
    obtain⟨kind,ix,sub,tg,la,cr,sz,size,code,data,sq,bl,em,sum⟩:= N
    simp only[msV,if_true,if_false,Bool.false_eq_true,ite_self]
    go_wp2_with fail
    refine bodyPost_ret (v:= .agg #[.int .i64 kind,.int .i64 ix,.int .i64 sub,.bool tg,.bool la,.bool cr,.bool sz,.int .u32 (size:Nat),.int .u32 (code:Nat),.slice none 0 0,.int .i64 sq,.int .i64 bl,.int .i64 em,.int .u16 (sum:Nat)]) (by simp[results,Try.results83,go_sem,q1x_c0,q1x_c1,q1x_c2,q1x_c3,q1x_c4,q1x_c5,q1x_c6,q1x_c7,q1x_c8,q1x_c9,q1x_c10,q1x_c11,q1x_c12,q1x_c13,q1x_f]) rfl ?_
    exact⟨none,0,0,by rw[← HN2.out];rfl,by rw[← HN2.out,HD.out];exact zb7.nil _ _,(by repeat' (first | with_reducible assumption | with_reducible exact Below.refl _ _ | with_reducible apply zbp | with_reducible apply zb3 | with_reducible apply zb2 | (with_reducible apply zbo;with_reducible assumption) | (with_reducible apply zb4;(first | exact Nat.le_refl _ | (simp;done) | omega))))⟩
  · skip
    have hG:=rg_16 b0 b1 b2 b3 b4 b5 b6 b7
    have HGK:=zak hG
    clear hG
    skip
    obtain⟨qm_c0,qm_c1,qm_c2,qm_c3,qm_c4,qm_c5,qm_c6,qm_c7,qm_c8,qm_c9,qm_c10,qm_c11,qm_c12,qm_c13⟩:= zbs qm
    have qm_f:=qm.frozen
    have e1:((b0.toNat:Int) % 2 == 1)=decide (b0.toNat % 2=1):= by rw[Bool.eq_iff_iff];simp;omega
    have e2:((b0.toNat:Int) / 2 % 2 == 1)=decide (b0.toNat / 2 % 2=1):= by rw[Bool.eq_iff_iff];simp;omega
    go_wp2_with fail
    have hG:=HGK.out
    refine (zjs ⟨16,(leN [b1,b2]:Nat),(b3.toNat:Int),decide (b0.toNat / 16 % 2=1),decide (b0.toNat % 2=1),decide (b0.toNat / 4 % 2=1),false,leN [b4,b5,b6,b7],leN [b4,b5,b6,b7],[],(b1.toNat:Int),(b4.toNat:Int),(b0.toNat:Int) / 4 % 8,leN [b1,b2]⟩ none 0 0 _ rfl (by first | exact k1 | decide) (by first | exact k2 | decide)).mono ?_
    rintro e w6 ⟨rfl,hb6⟩
    have hbx6:Below W.heap.size W w6:=by refine zbo hb6 ?_;repeat (first | exact hbx | refine zb4 (Nat.le_refl _) ?_ | refine zb3 ?_)
    have q1x:=q0.below hbx6 hsz0
    obtain⟨N,hN⟩:∃ N,N=guessM 16 [b0,b1,b2,b3,b4,b5,b6,b7]:= ⟨_,rfl⟩
    have hd:N.data= []:= by rw[hN,hG];rfl
    rw[show formI (Ms.kind ⟨16,(leN [b1,b2]:Nat),(b3.toNat:Int),decide (b0.toNat / 16 % 2=1),decide (b0.toNat % 2=1),decide (b0.toNat / 4 % 2=1),false,leN [b4,b5,b6,b7],leN [b4,b5,b6,b7],[],(b1.toNat:Int),(b4.toNat:Int),(b0.toNat:Int) / 4 % 8,leN [b1,b2]⟩)=8 from rfl,← hG,← hN]
    rw[show dataB 8=false from rfl]
    have hb7:=zbo hbx6 hbw
    have HN2:=zak hN
    have HD:=zak hd
    clear hN hd hG
    clear qm_c0 qm_c1 qm_c2 qm_c3 qm_c4 qm_c5 qm_c6 qm_c7 qm_c8 qm_c9 qm_c10 qm_c11 qm_c12 qm_c13 qm_f
    obtain⟨q1x_c0,q1x_c1,q1x_c2,q1x_c3,q1x_c4,q1x_c5,q1x_c6,q1x_c7,q1x_c8,q1x_c9,q1x_c10,q1x_c11,q1x_c12,q1x_c13⟩:= zbs q1x
    have q1x_f:=q1x.frozen
    obtain⟨kind,ix,sub,tg,la,cr,sz,size,code,data,sq,bl,em,sum⟩:= N
    simp only[msV,if_true,if_false,Bool.false_eq_true,ite_self]
    go_wp2_with fail
    refine bodyPost_ret (v:= .agg #[.int .i64 kind,.int .i64 ix,.int .i64 sub,.bool tg,.bool la,.bool cr,.bool sz,.int .u32 (size:Nat),.int .u32 (code:Nat),.slice none 0 0,.int .i64 sq,.int .i64 bl,.int .i64 em,.int .u16 (sum:Nat)]) (by simp[results,Try.results83,go_sem,q1x_c0,q1x_c1,q1x_c2,q1x_c3,q1x_c4,q1x_c5,q1x_c6,q1x_c7,q1x_c8,q1x_c9,q1x_c10,q1x_c11,q1x_c12,q1x_c13,q1x_f]) rfl ?_
    exact⟨none,0,0,by rw[← HN2.out];rfl,by rw[← HN2.out,HD.out];exact zb7.nil _ _,(by repeat' (first | with_reducible assumption | with_reducible exact Below.refl _ _ | with_reducible apply zbp | with_reducible apply zb3 | with_reducible apply zb2 | (with_reducible apply zbo;with_reducible assumption) | (with_reducible apply zb4;(first | exact Nat.le_refl _ | (simp;done) | omega))))⟩
end
end Go.Proofs.Ythdbckbpldlkeaa
