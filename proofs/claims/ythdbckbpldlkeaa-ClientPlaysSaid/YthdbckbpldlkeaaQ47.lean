/- None -/
import Derived.Test.YthdbckbpldlkeaaQ41
import Derived.Test.YthdbckbpldlkeaaQ42
import Derived.Test.YthdbckbpldlkeaaQ43
import Derived.Test.YthdbckbpldlkeaaQ44
import Derived.Test.YthdbckbpldlkeaaQ45
import Derived.Test.YthdbckbpldlkeaaQ46
namespace Go.Proofs.Ythdbckbpldlkeaa
set_option linter.unusedVariables false
set_option linter.unusedSimpArgs false
set_option linter.unnecessarySimpa false
section
section
open Go.RowKit
set_option maxRecDepth 100000
set_option maxHeartbeats 4000000
theorem znr (k:Int) (A:Option Addr) (n c:Nat) (b:List UInt8) (w:World) (hn:n=b.length) (h8:b.length=8) (hc:n≤c) (hs:Sl w A (b.map bv)) (k1:1≤k) (k2:k≤21) :
 Calls Try.prog 83 #[.int .i64 k,.slice A n c] w (GuessR k b w):= by
 rcases (show (k=1∨k=4∨k=5∨k=7∨k=9∨k=10∨k=11∨k=12∨k=13∨k=17∨k=18∨k=20)∨ (k=2∨k=14)∨ (k=3∨k=15)∨ (k=6∨k=19)∨ (k=8∨k=16)∨ (k=21) by omega) with g | g | g | g | g | g
 · exact znl k A n c b w hn h8 hc hs k1 k2 g
 · exact znm k A n c b w hn h8 hc hs k1 k2 g
 · exact znn k A n c b w hn h8 hc hs k1 k2 g
 · exact zno k A n c b w hn h8 hc hs k1 k2 g
 · exact znp k A n c b w hn h8 hc hs k1 k2 g
 · exact znq k A n c b w hn h8 hc hs k1 k2 g
end
section
open Go.RowKit
set_option maxRecDepth 100000
set_option maxHeartbeats 2000000
def upK (low:Int) (ab:Bool):Nat→Int→List Int
 | 0,_=> []
 | t+1,j=>if j < low∧(1 < j∨ab=false) then upK low ab t (j+1) else j :: upK low ab t (j+1)
theorem zns (low:Int) (ab:Bool) (t:Nat) (j:Int) (h:j < low∧(1 < j∨ab=false)):upK low ab (t+1) j=upK low ab t (j+1):= by rw[upK,if_pos h]
theorem znt (low:Int) (ab:Bool) (t:Nat) (j:Int) (h: ¬ (j < low∧(1 < j∨ab=false))):upK low ab (t+1) j=j :: upK low ab t (j+1):= by rw[upK,if_neg h]
theorem znu (k:Int) (ks:List Int) (b:List UInt8) (h:hitB k b=false):ofM (k :: ks) b=ofM ks b:=by
 rw[ofM,h];rfl
theorem znv (ks:List Int) (A:Option Addr) (n c:Nat) (lo hi:Int) (ab:Bool) (b:List UInt8) (w:World) (hn:n=b.length) (h8:b.length≠8) :
 Calls Try.prog 61 #[.slice A n c,.int .i64 lo,.int .i64 hi,.bool ab] w (ReadR ks b w):= by
 rcases Nat.lt_or_gt_of_ne h8 with h | h
 · have HE:Hid (∀ e w',e= .returned (.tuple #[.agg (msV msZ none 0 0),.int .i64 2])→ Below w.heap.size w w'→ReadR ks b w e w'):= zak (fun e w' he hb=>zew ks b w h8 (by unfold errI;rw[if_pos h,if_pos h]) e w' (by rw[if_pos h];exact he) hb)
   have hn8:n < 8:=by omega
   clear h h8 hn
   go_enter Try.func61,Try.ntmps61
   go_wp2_with fail
   refine bodyPost_ret (v:= .tuple #[.agg (msV msZ none 0 0),.int .i64 2]) (by simp[results,Try.results61,go_sem,msV,msZ]) rfl (HE.out _ _ rfl (by repeat' (first | with_reducible assumption | with_reducible exact Below.refl _ _ | with_reducible apply zbp | with_reducible apply zb3 | with_reducible apply zb2 | (with_reducible apply zbo;with_reducible assumption) | (with_reducible apply zb4;(first | exact Nat.le_refl _ | (simp;done) | omega)))))
 · have HE:Hid (∀ e w',e= .returned (.tuple #[.agg (msV msZ none 0 0),.int .i64 3])→ Below w.heap.size w w'→ReadR ks b w e w'):= zak (fun e w' he hb=>zew ks b w h8 (by unfold errI;rw[if_neg (by omega),if_pos h,if_neg (by omega)]) e w' (by rw[if_neg (by omega)];exact he) hb)
   have hn8:8 < n:=by omega
   clear h h8 hn
   go_enter Try.func61,Try.ntmps61
   go_wp2_with fail
   refine bodyPost_ret (v:= .tuple #[.agg (msV msZ none 0 0),.int .i64 3]) (by simp[results,Try.results61,go_sem,msV,msZ]) rfl (HE.out _ _ rfl (by repeat' (first | with_reducible assumption | with_reducible exact Below.refl _ _ | with_reducible apply zbp | with_reducible apply zb3 | with_reducible apply zb2 | (with_reducible apply zbo;with_reducible assumption) | (with_reducible apply zb4;(first | exact Nat.le_refl _ | (simp;done) | omega)))))
theorem znw (ks:List Int) (A:Option Addr) (c:Nat) (lo hi:Int) (ab:Bool) (b:List UInt8) (w:World) (h8:b.length=8) (hc:8≤c) (hs:Sl w A (b.map bv)) (hks:ks=upK lo ab hi.toNat 1) (h0:0≤hi) (h21:hi≤21) (l0:0≤lo) (l21:lo≤30) :
 Calls Try.prog 61 #[.slice A 8 c,.int .i64 lo,.int .i64 hi,.bool ab] w (ReadR ks b w):= by
 have HE:Hid (∀ m A' n' c' e w',ofM ks b=some m→e= .returned (.tuple #[.agg (msV m A' n' c'),.int .i64 0])→ zb7 w' w.heap.size A' n' c' m.data→Below w.heap.size w w'→ReadR ks b w e w'):= zak (by
  intro m A' n' c' e w' hm he hO hb
  have h1:resM ks b=m:=by unfold resM;rw[if_pos h8,hm];rfl
  have h2:errI ks b=0:=by unfold errI;rw[if_neg (by omega),if_neg (by omega),hm];rfl
  exact⟨A',n',c',by rw[h1,h2];exact he,by rw[h1];exact hO,hb⟩)
 have HNO:Hid (∀ e w',ofM ks b=none→e= .returned (.tuple #[.agg (msV msZ none 0 0),.int .i64 4])→ Below w.heap.size w w'→ReadR ks b w e w'):= zak (by
  intro e w' hm he hb
  have h1:resM ks b=msZ:=by unfold resM;rw[if_pos h8,hm];rfl
  have h2:errI ks b=4:=by unfold errI;rw[if_neg (by omega),if_neg (by omega),hm];rfl
  exact⟨none,0,0,by rw[h1,h2];exact he,by rw[h1];exact zb7.nil _ _,hb⟩)
 have H8:=zak h8
 obtain⟨P,hP⟩:∃ P,P=ReadR ks b w:=⟨_,rfl⟩
 rw[← hP] at HE HNO ⊢
 have HKS:=zak hks
 clear h8 hP hks
 go_enter Try.func61,Try.ntmps61
 go_wp2_with fail
 go_loopw [10] (fun i wr=> ∃ (j:Int) (t:Nat),1≤j∧j+t=hi+1∧i= .int .i64 j∧ofM ks b=ofM (upK lo ab t j) b∧Below w.heap.size w wr∧Blk wr w.heap.size 72 (msV msZ none 0 0)) (fun i _=>(hi+1 - intOf i).toNat)
 case atStart=>
  exact⟨1,hi.toNat,by omega,by omega,rfl,by rw[HKS.out],(by repeat' (first | with_reducible assumption | with_reducible exact Below.refl _ _ | with_reducible apply zbp | with_reducible apply zb3 | with_reducible apply zb2 | (with_reducible apply zbo;with_reducible assumption) | (with_reducible apply zb4;(first | exact Nat.le_refl _ | (simp;done) | omega)))),zbu w _ _⟩
 case round=>
  obtain⟨j,t,hj,hjt,rfl,hof,hbr,qr⟩:= hrel
  have HOF:=zak hof
  clear hof
  cases t with
  | zero=>
    have HN:Hid (ofM ks b=none):= zak (by rw[HOF.out];rfl)
    simp only[msV,msZ] at qr
    have hj2:hi < j:=by omega
    clear hjt
    obtain⟨qr_c0,qr_c1,qr_c2,qr_c3,qr_c4,qr_c5,qr_c6,qr_c7,qr_c8,qr_c9,qr_c10,qr_c11,qr_c12,qr_c13⟩:= zbs qr
    have qr_f:=qr.frozen
    go_wp2_with fail
    refine bodyPost_ret (v:= .tuple #[.agg (msV msZ none 0 0),.int .i64 4]) (by simp[results,Try.results61,go_sem,msV,msZ,qr_c0,qr_c1,qr_c2,qr_c3,qr_c4,qr_c5,qr_c6,qr_c7,qr_c8,qr_c9,qr_c10,qr_c11,qr_c12,qr_c13,qr_f]) rfl (HNO.out _ _ HN.out rfl ?_)
    repeat' (first | with_reducible assumption | with_reducible exact Below.refl _ _ | with_reducible apply zbp | with_reducible apply zb3 | with_reducible apply zb2 | (with_reducible apply zbo;with_reducible assumption) | (with_reducible apply zb4;(first | exact Nat.le_refl _ | (simp;done) | omega)))
  | succ t=>
    have hj2:j≤hi:=by omega
    have HJ:Hid (j+1+(t:Int)=hi+1):= zak (by omega)
    clear hjt
    by_cases hsk:j < lo∧(1 < j∨ab=false)
    case pos=>
     have HS:=zak (zns lo ab t j hsk)
     obtain⟨s1,s2⟩:= hsk
     rcases s2 with s2 | rfl
     · go_wp2_with fail
       go_roundw
       case rel=>exact⟨j+1,t,by omega,HJ.out,by first | rfl | go_num,by rw[HOF.out,HS.out],hbr,qr⟩
       case measure=>simp[intOf];omega
     · by_cases s3:1 < j
       · go_wp2_with fail
         go_roundw
         case rel=>exact⟨j+1,t,by omega,HJ.out,by first | rfl | go_num,by rw[HOF.out,HS.out],hbr,qr⟩
         case measure=>simp[intOf];omega
       · go_wp2_with fail
         go_roundw
         case rel=>exact⟨j+1,t,by omega,HJ.out,by first | rfl | go_num,by rw[HOF.out,HS.out],hbr,qr⟩
         case measure=>simp[intOf];omega
    case neg=>
     have HT:=zak (znt lo ab t j hsk)
     have hcase:lo≤j∨(j < lo∧j≤1∧ab=true):= by
      rcases Int.lt_or_le j lo with h | h
      · right
        refine⟨h,?_,?_⟩
        · rcases Int.lt_or_le 1 j with h' | h'
          · exact absurd ⟨h,.inl h'⟩ hsk
          · exact h'
        · cases ab
          · exact absurd ⟨h,.inr rfl⟩ hsk
          · rfl
      · exact .inl h
     clear hsk
     have HR:=zak (fun W h=>znr j A 8 c b W H8.out.symm H8.out hc h hj (by omega))
     have hbd:=zeu j b
     obtain⟨N,hN⟩:∃ N,N=guessM j b:=⟨_,rfl⟩
     have HN:=zak hN
     have HGB:Hid (∀ W,GuessR j b W=fun e w'=> ∃ A' n' c',e= .returned (.agg (msV N A' n' c'))∧ zb7 w' W.heap.size A' n' c' N.data∧Below W.heap.size W w'):= zak (by intro W;rw[hN];rfl)
     rw[← hN] at hbd
     clear hN
     obtain⟨bd1,bd2,bd3⟩:= hbd
     have HC:=zak (fun A n c W h1 h2=>zk8 N A n c W h1 h2)
     have HL:=zak (fun A n c W h1 h2 h3=>zla N A n c W h1 h2 h3 bd1 bd2 bd3)
     have HHIT:Hid (hitB j b=(canB N && decide (laidB N=b))):= zak (by unfold hitB;rw[← HN.out])
     have HOK:Hid (hitB j b=true→ofM ks b=some N):= zak (by intro h;rw[HOF.out,HT.out,ofM,if_pos h,← HN.out])
     obtain⟨cn,hcn⟩:∃ cn,cn=canB N:=⟨_,rfl⟩
     rw[← hcn] at HC HHIT HL
     obtain⟨L,hL⟩:∃ L,L=laidB N:=⟨_,rfl⟩
     rw[← hL] at HL HHIT
     clear hcn hL bd1 bd2 bd3
     obtain⟨kind,ix,sub,tg,la,cr,sz,size,code,data,sq,bl,em,sum⟩:= N
     simp only[msV] at HC HL HGB
     have hwalk:(lo≤j∧decide (j < lo)=false)∨ (j < lo∧j≤1∧ab=true):= by
      rcases hcase with h | h
      · exact .inl ⟨h,by simp;omega⟩
      · exact .inr h
     clear hcase
     have hcall:True:=trivial
     rcases hwalk with ⟨v1,v2⟩ | ⟨v1,v2,rfl⟩
     · skip
       go_wp2_with fail
       refine (HR.out _ (hs.below hbr)).mono ?_
       rw[HGB.out]
       rintro e w2 ⟨A2,n2,c2,rfl,hO2,hb2⟩
       try dsimp only
       have lr:=qr.lt
       have qm:=Blk.new w2 72 #[.int .i64 kind,.int .i64 ix,.int .i64 sub,.bool tg,.bool la,.bool cr,.bool sz,.int .u32 (size:Nat),.int .u32 (code:Nat),.slice A2 n2 c2,.int .i64 sq,.int .i64 bl,.int .i64 em,.int .u16 (sum:Nat)]
       have hbX:Below w.heap.size w (w2.alloc (.cells #[.int .i64 kind,.int .i64 ix,.int .i64 sub,.bool tg,.bool la,.bool cr,.bool sz,.int .u32 (size:Nat),.int .u32 (code:Nat),.slice A2 n2 c2,.int .i64 sq,.int .i64 bl,.int .i64 em,.int .u16 (sum:Nat)] 72)):= zbp (zbo hb2 hbr) _
       have qrX:=(qr.below hb2 lr).alloc (.cells #[.int .i64 kind,.int .i64 ix,.int .i64 sub,.bool tg,.bool la,.bool cr,.bool sz,.int .u32 (size:Nat),.int .u32 (code:Nat),.slice A2 n2 c2,.int .i64 sq,.int .i64 bl,.int .i64 em,.int .u16 (sum:Nat)] 72)
       have hOX:=hO2.alloc (.cells #[.int .i64 kind,.int .i64 ix,.int .i64 sub,.bool tg,.bool la,.bool cr,.bool sz,.int .u32 (size:Nat),.int .u32 (code:Nat),.slice A2 n2 c2,.int .i64 sq,.int .i64 bl,.int .i64 em,.int .u16 (sum:Nat)] 72)
       go_wp2_with fail
       generalize w2.alloc (.cells #[.int .i64 kind,.int .i64 ix,.int .i64 sub,.bool tg,.bool la,.bool cr,.bool sz,.int .u32 (size:Nat),.int .u32 (code:Nat),.slice A2 n2 c2,.int .i64 sq,.int .i64 bl,.int .i64 em,.int .u16 (sum:Nat)] 72)=X at *
       have lm:=qm.lt
       have lrX:=qrX.lt
       obtain⟨qm_c0,qm_c1,qm_c2,qm_c3,qm_c4,qm_c5,qm_c6,qm_c7,qm_c8,qm_c9,qm_c10,qm_c11,qm_c12,qm_c13⟩:= zbs qm
       have qm_f:=qm.frozen
       have t2:∀ Y,Below X.heap.size X Y→(convert 32 9 (.slice A 8 c)).run Try.prog Y= .ok (.string ⟨b.toArray⟩) Y:=fun Y hY=>zca c H8.out.symm (hs.below (zbo hY hbX))
       obtain⟨s2,hs2⟩:∃ s:ByteArray,s=⟨b.toArray⟩:= ⟨_,rfl⟩
       rw[← hs2] at t2
       have HS2:=zak hs2
       clear hs2
       cases cn
       case false=>
        have HH:Hid (hitB j b=false):= zak (by rw[HHIT.out,Bool.false_and])
        refine wp_region_held_drew (S:=(fun w'=>(∀ qA:Addr,qA.block < (X).heap.size→w'.cell? qA=(X).cell? qA)∧ Below (X).heap.size (X) w')) (by kernel_rfl) ?hS1 (fun hHeld=>?rest1)
        case hS1=>((try dsimp only);(((try go_split_ands);refine zbn ?_;repeat' (first | with_reducible assumption | with_reducible exact Below.refl _ _ | with_reducible apply zbp | with_reducible apply zb3 | with_reducible apply zb2 | (with_reducible apply zbo;with_reducible assumption) | (with_reducible apply zb4;(first | exact Nat.le_refl _ | (simp;done) | omega))))))
        case' rest1=>skip
        refine tkH 0 ?_
        try simp only[PqL,Act.put]
        refine wpAnyH_ready (rs:= [1]) (by kernel_rfl) (by simp) ?_
        refine AllReadyH.cons (o:=_) rfl (fun K hK=>?_) AllReadyH.nil
        go_simp
        refine (HC.out A2 n2 c2 _ hOX.hn hOX.drew.sl).mono ?_
        rintro e w3 ⟨rfl,hb3⟩
        try dsimp only
        refine hK.out _ _ ?hS5 (fun hHeld=>?rest5)
        case hS5=>((try dsimp only);(((try go_split_ands);refine zbn ?_;repeat' (first | with_reducible assumption | with_reducible exact Below.refl _ _ | with_reducible apply zbp | with_reducible apply zb3 | with_reducible apply zb2 | (with_reducible apply zbo;with_reducible assumption) | (with_reducible apply zb4;(first | exact Nat.le_refl _ | (simp;done) | omega))))))
        case' rest5=>(clear hK K;try simp only[PqL,Act.put])
        refine tkH 2 ?_
        try simp only[PqL,Act.put]
        refine tkU 3 ?_
        try simp only[PqL,Act.put]
        refine tkU 4 ?_
        try simp only[PqL,Act.put]
        refine tkU 5 ?_
        try simp only[PqL,Act.put]
        refine tkU 6 ?_
        try simp only[PqL,Act.put]
        refine tkU 7 ?_
        try simp only[PqL,Act.put]
        refine tkU 8 ?_
        try simp only[PqL,Act.put]
        refine tkH 9 ?_
        try simp only[PqL,Act.put]
        refine wpAnyH_done (by kernel_rfl) ?_ _
        have hEnd:=hHeld.2
        repeat (clear hHeld)
        have hbE:=zbo hEnd hbX
        have qrE:=qrX.below hEnd lrX
        clear hEnd t2
        clear qm_c0 qm_c1 qm_c2 qm_c3 qm_c4 qm_c5 qm_c6 qm_c7 qm_c8 qm_c9 qm_c10 qm_c11 qm_c12 qm_c13 qm_f
        clear qm
        go_wp2_with fail
        go_roundw
        case rel=>exact⟨j+1,t,by omega,HJ.out,by first | rfl | go_num,by rw[HOF.out,HT.out,znu _ _ _ HH.out],hbE,qrE⟩
        case measure=>simp[intOf];omega
       case true=>
        refine wp_region_held_drew (S:=(fun w'=>(∀ qA:Addr,qA.block < (X).heap.size→w'.cell? qA=(X).cell? qA)∧ Below (X).heap.size (X) w')) (by kernel_rfl) ?hS15 (fun hHeld=>?rest15)
        case hS15=>((try dsimp only);(((try go_split_ands);refine zbn ?_;repeat' (first | with_reducible assumption | with_reducible exact Below.refl _ _ | with_reducible apply zbp | with_reducible apply zb3 | with_reducible apply zb2 | (with_reducible apply zbo;with_reducible assumption) | (with_reducible apply zb4;(first | exact Nat.le_refl _ | (simp;done) | omega))))))
        case' rest15=>skip
        refine tkH 0 ?_
        try simp only[PqL,Act.put]
        refine wpAnyH_ready (rs:= [1]) (by kernel_rfl) (by simp) ?_
        refine AllReadyH.cons (o:=_) rfl (fun K hK=>?_) AllReadyH.nil
        go_simp
        refine (HC.out A2 n2 c2 _ hOX.hn hOX.drew.sl).mono ?_
        rintro e w3 ⟨rfl,hb3⟩
        try dsimp only
        refine hK.out _ _ ?hS19 (fun hHeld=>?rest19)
        case hS19=>((try dsimp only);(((try go_split_ands);refine zbn ?_;repeat' (first | with_reducible assumption | with_reducible exact Below.refl _ _ | with_reducible apply zbp | with_reducible apply zb3 | with_reducible apply zb2 | (with_reducible apply zbo;with_reducible assumption) | (with_reducible apply zb4;(first | exact Nat.le_refl _ | (simp;done) | omega))))))
        case' rest19=>(clear hK K;try simp only[PqL,Act.put])
        refine tkH 2 ?_
        try simp only[PqL,Act.put]
        refine tkH 3 ?_
        try simp only[PqL,Act.put]
        refine tkH 6 ?_
        try simp only[PqL,Act.put]
        refine tkH 7 ?_
        try simp only[PqL,Act.put]
        refine wpAnyH_ready (rs:= [4]) (by kernel_rfl) (by simp) ?_
        refine AllReadyH.cons (o:=_) rfl (fun K hK=>?_) AllReadyH.nil
        go_simp
        refine (HL.out A2 n2 c2 _ hOX.hn (hOX.drew.below hb3).sl (by first | rfl | trivial)).mono ?_
        rintro e w4 ⟨g4,rfl,hO4,hb4⟩
        try dsimp only
        have t1:=zca 8 hO4.hn hO4.sl
        by_cases heq:L=b
        case pos=>
         rw[heq,← HS2.out] at t1
         refine hK.out _ _ ?hS26 (fun hHeld=>?rest26)
         case hS26=>((try dsimp only);(((try go_split_ands);refine zbn ?_;repeat' (first | with_reducible assumption | with_reducible exact Below.refl _ _ | with_reducible apply zbp | with_reducible apply zb3 | with_reducible apply zb2 | (with_reducible apply zbo;with_reducible assumption) | (with_reducible apply zb4;(first | exact Nat.le_refl _ | (simp;done) | omega))))))
         case' rest26=>(clear hK K;try simp only[PqL,Act.put])
         refine wpAnyH_ready (rs:= [5]) (by kernel_rfl) (by simp) ?_
         refine AllReadyH.cons (o:=_) rfl (fun K hK=>?_) AllReadyH.nil
         go_simp
         refine hK.out _ _ ?hS29 (fun hHeld=>?rest29)
         case hS29=>((try dsimp only);(((try go_split_ands);refine zbn ?_;repeat' (first | with_reducible assumption | with_reducible exact Below.refl _ _ | with_reducible apply zbp | with_reducible apply zb3 | with_reducible apply zb2 | (with_reducible apply zbo;with_reducible assumption) | (with_reducible apply zb4;(first | exact Nat.le_refl _ | (simp;done) | omega))))))
         case' rest29=>(clear hK K;try simp only[PqL,Act.put])
         refine tkH 8 ?_
         try simp only[PqL,Act.put]
         refine tkH 9 ?_
         try simp only[PqL,Act.put]
         refine wpAnyH_done (by kernel_rfl) ?_ _
         have hEnd:=hHeld.2
         repeat (clear hHeld)
         have hm:=HOK.out (by rw[HHIT.out,decide_eq_true heq];rfl)
         have HM:=zak hm
         clear hm heq t1 t2 hO4
         have qmE:=qm.below hEnd lm
         have qrE:=qrX.below hEnd lrX
         have hOE:=hOX.below hEnd
         have hbE:=zbo hEnd hbX
         clear hEnd
         clear qm_c0 qm_c1 qm_c2 qm_c3 qm_c4 qm_c5 qm_c6 qm_c7 qm_c8 qm_c9 qm_c10 qm_c11 qm_c12 qm_c13 qm_f
         clear qm
         simp only[msV,msZ] at qrE
         obtain⟨qmE_c0,qmE_c1,qmE_c2,qmE_c3,qmE_c4,qmE_c5,qmE_c6,qmE_c7,qmE_c8,qmE_c9,qmE_c10,qmE_c11,qmE_c12,qmE_c13⟩:= zbs qmE
         have qmE_f:=qmE.frozen
         obtain⟨qrE_c0,qrE_c1,qrE_c2,qrE_c3,qrE_c4,qrE_c5,qrE_c6,qrE_c7,qrE_c8,qrE_c9,qrE_c10,qrE_c11,qrE_c12,qrE_c13⟩:= zbs qrE
         have qrE_f:=qrE.frozen
         go_wp2_with fail
         refine bodyPost_ret (v:= .tuple #[.agg #[.int .i64 kind,.int .i64 ix,.int .i64 sub,.bool tg,.bool la,.bool cr,.bool sz,.int .u32 (size:Nat),.int .u32 (code:Nat),.slice A2 n2 c2,.int .i64 sq,.int .i64 bl,.int .i64 em,.int .u16 (sum:Nat)],.int .i64 0]) (by simp[results,Try.results61,go_sem,qrE_c0,qrE_c1,qrE_c2,qrE_c3,qrE_c4,qrE_c5,qrE_c6,qrE_c7,qrE_c8,qrE_c9,qrE_c10,qrE_c11,qrE_c12,qrE_c13,qrE_f]) rfl (HE.out _ A2 n2 c2 _ _ HM.out rfl ?_ ?_)
         · exact (zd2 hOE lr _ _ _ _ _ _ _ _ _ _ _ _ _ _).mono hbr.size
         · repeat' (first | with_reducible assumption | with_reducible exact Below.refl _ _ | with_reducible apply zbp | with_reducible apply zb3 | with_reducible apply zb2 | (with_reducible apply zbo;with_reducible assumption) | (with_reducible apply zb4;(first | exact Nat.le_refl _ | (simp;done) | omega)))
        case neg=>
         have HH:Hid (hitB j b=false):= zak (by rw[HHIT.out,decide_eq_false heq,Bool.and_false])
         obtain⟨s1,hs1⟩:∃ s:ByteArray,s=⟨L.toArray⟩:= ⟨_,rfl⟩
         have hx:(s1.toList == s2.toList)=false:=by
          rw[beq_eq_false_iff_ne,hs1,HS2.out]
          intro h
          exact heq (by simpa using h)
         rw[← hs1] at t1
         clear heq hs1
         refine hK.out _ _ ?hS33 (fun hHeld=>?rest33)
         case hS33=>((try dsimp only);(((try go_split_ands);refine zbn ?_;repeat' (first | with_reducible assumption | with_reducible exact Below.refl _ _ | with_reducible apply zbp | with_reducible apply zb3 | with_reducible apply zb2 | (with_reducible apply zbo;with_reducible assumption) | (with_reducible apply zb4;(first | exact Nat.le_refl _ | (simp;done) | omega))))))
         case' rest33=>(clear hK K;try simp only[PqL,Act.put])
         refine wpAnyH_ready (rs:= [5]) (by kernel_rfl) (by simp) ?_
         refine AllReadyH.cons (o:=_) rfl (fun K hK=>?_) AllReadyH.nil
         go_simp
         refine hK.out _ _ ?hS36 (fun hHeld=>?rest36)
         case hS36=>((try dsimp only);(((try go_split_ands);refine zbn ?_;repeat' (first | with_reducible assumption | with_reducible exact Below.refl _ _ | with_reducible apply zbp | with_reducible apply zb3 | with_reducible apply zb2 | (with_reducible apply zbo;with_reducible assumption) | (with_reducible apply zb4;(first | exact Nat.le_refl _ | (simp;done) | omega))))))
         case' rest36=>(clear hK K;try simp only[PqL,Act.put])
         refine tkH 8 ?_
         try simp only[PqL,Act.put]
         refine tkH 9 ?_
         try simp only[PqL,Act.put]
         refine wpAnyH_done (by kernel_rfl) ?_ _
         have hEnd:=hHeld.2
         repeat (clear hHeld)
         clear t1 t2 hO4
         have qrE:=qrX.below hEnd lrX
         have hbE:=zbo hEnd hbX
         clear hEnd
         clear qm_c0 qm_c1 qm_c2 qm_c3 qm_c4 qm_c5 qm_c6 qm_c7 qm_c8 qm_c9 qm_c10 qm_c11 qm_c12 qm_c13 qm_f
         clear qm
         go_wp2_with fail
         go_roundw
         case rel=>exact⟨j+1,t,by omega,HJ.out,by first | rfl | go_num,by rw[HOF.out,HT.out,znu _ _ _ HH.out],hbE,qrE⟩
         case measure=>simp[intOf];omega
     · skip
       go_wp2_with fail
       refine (HR.out _ (hs.below hbr)).mono ?_
       rw[HGB.out]
       rintro e w2 ⟨A2,n2,c2,rfl,hO2,hb2⟩
       try dsimp only
       have lr:=qr.lt
       have qm:=Blk.new w2 72 #[.int .i64 kind,.int .i64 ix,.int .i64 sub,.bool tg,.bool la,.bool cr,.bool sz,.int .u32 (size:Nat),.int .u32 (code:Nat),.slice A2 n2 c2,.int .i64 sq,.int .i64 bl,.int .i64 em,.int .u16 (sum:Nat)]
       have hbX:Below w.heap.size w (w2.alloc (.cells #[.int .i64 kind,.int .i64 ix,.int .i64 sub,.bool tg,.bool la,.bool cr,.bool sz,.int .u32 (size:Nat),.int .u32 (code:Nat),.slice A2 n2 c2,.int .i64 sq,.int .i64 bl,.int .i64 em,.int .u16 (sum:Nat)] 72)):= zbp (zbo hb2 hbr) _
       have qrX:=(qr.below hb2 lr).alloc (.cells #[.int .i64 kind,.int .i64 ix,.int .i64 sub,.bool tg,.bool la,.bool cr,.bool sz,.int .u32 (size:Nat),.int .u32 (code:Nat),.slice A2 n2 c2,.int .i64 sq,.int .i64 bl,.int .i64 em,.int .u16 (sum:Nat)] 72)
       have hOX:=hO2.alloc (.cells #[.int .i64 kind,.int .i64 ix,.int .i64 sub,.bool tg,.bool la,.bool cr,.bool sz,.int .u32 (size:Nat),.int .u32 (code:Nat),.slice A2 n2 c2,.int .i64 sq,.int .i64 bl,.int .i64 em,.int .u16 (sum:Nat)] 72)
       go_wp2_with fail
       generalize w2.alloc (.cells #[.int .i64 kind,.int .i64 ix,.int .i64 sub,.bool tg,.bool la,.bool cr,.bool sz,.int .u32 (size:Nat),.int .u32 (code:Nat),.slice A2 n2 c2,.int .i64 sq,.int .i64 bl,.int .i64 em,.int .u16 (sum:Nat)] 72)=X at *
       have lm:=qm.lt
       have lrX:=qrX.lt
       obtain⟨qm_c0,qm_c1,qm_c2,qm_c3,qm_c4,qm_c5,qm_c6,qm_c7,qm_c8,qm_c9,qm_c10,qm_c11,qm_c12,qm_c13⟩:= zbs qm
       have qm_f:=qm.frozen
       have t2:∀ Y,Below X.heap.size X Y→(convert 32 9 (.slice A 8 c)).run Try.prog Y= .ok (.string ⟨b.toArray⟩) Y:=fun Y hY=>zca c H8.out.symm (hs.below (zbo hY hbX))
       obtain⟨s2,hs2⟩:∃ s:ByteArray,s=⟨b.toArray⟩:= ⟨_,rfl⟩
       rw[← hs2] at t2
       have HS2:=zak hs2
       clear hs2
       cases cn
       case false=>
        have HH:Hid (hitB j b=false):= zak (by rw[HHIT.out,Bool.false_and])
        refine wp_region_held_drew (S:=(fun w'=>(∀ qA:Addr,qA.block < (X).heap.size→w'.cell? qA=(X).cell? qA)∧ Below (X).heap.size (X) w')) (by kernel_rfl) ?hS40 (fun hHeld=>?rest40)
        case hS40=>((try dsimp only);(((try go_split_ands);refine zbn ?_;repeat' (first | with_reducible assumption | with_reducible exact Below.refl _ _ | with_reducible apply zbp | with_reducible apply zb3 | with_reducible apply zb2 | (with_reducible apply zbo;with_reducible assumption) | (with_reducible apply zb4;(first | exact Nat.le_refl _ | (simp;done) | omega))))))
        case' rest40=>skip
        refine tkH 0 ?_
        try simp only[PqL,Act.put]
        refine wpAnyH_ready (rs:= [1]) (by kernel_rfl) (by simp) ?_
        refine AllReadyH.cons (o:=_) rfl (fun K hK=>?_) AllReadyH.nil
        go_simp
        refine (HC.out A2 n2 c2 _ hOX.hn hOX.drew.sl).mono ?_
        rintro e w3 ⟨rfl,hb3⟩
        try dsimp only
        refine hK.out _ _ ?hS44 (fun hHeld=>?rest44)
        case hS44=>((try dsimp only);(((try go_split_ands);refine zbn ?_;repeat' (first | with_reducible assumption | with_reducible exact Below.refl _ _ | with_reducible apply zbp | with_reducible apply zb3 | with_reducible apply zb2 | (with_reducible apply zbo;with_reducible assumption) | (with_reducible apply zb4;(first | exact Nat.le_refl _ | (simp;done) | omega))))))
        case' rest44=>(clear hK K;try simp only[PqL,Act.put])
        refine tkH 2 ?_
        try simp only[PqL,Act.put]
        refine tkU 3 ?_
        try simp only[PqL,Act.put]
        refine tkU 4 ?_
        try simp only[PqL,Act.put]
        refine tkU 5 ?_
        try simp only[PqL,Act.put]
        refine tkU 6 ?_
        try simp only[PqL,Act.put]
        refine tkU 7 ?_
        try simp only[PqL,Act.put]
        refine tkU 8 ?_
        try simp only[PqL,Act.put]
        refine tkH 9 ?_
        try simp only[PqL,Act.put]
        refine wpAnyH_done (by kernel_rfl) ?_ _
        have hEnd:=hHeld.2
        repeat (clear hHeld)
        have hbE:=zbo hEnd hbX
        have qrE:=qrX.below hEnd lrX
        clear hEnd t2
        clear qm_c0 qm_c1 qm_c2 qm_c3 qm_c4 qm_c5 qm_c6 qm_c7 qm_c8 qm_c9 qm_c10 qm_c11 qm_c12 qm_c13 qm_f
        clear qm
        go_wp2_with fail
        go_roundw
        case rel=>exact⟨j+1,t,by omega,HJ.out,by first | rfl | go_num,by rw[HOF.out,HT.out,znu _ _ _ HH.out],hbE,qrE⟩
        case measure=>simp[intOf];omega
       case true=>
        refine wp_region_held_drew (S:=(fun w'=>(∀ qA:Addr,qA.block < (X).heap.size→w'.cell? qA=(X).cell? qA)∧ Below (X).heap.size (X) w')) (by kernel_rfl) ?hS54 (fun hHeld=>?rest54)
        case hS54=>((try dsimp only);(((try go_split_ands);refine zbn ?_;repeat' (first | with_reducible assumption | with_reducible exact Below.refl _ _ | with_reducible apply zbp | with_reducible apply zb3 | with_reducible apply zb2 | (with_reducible apply zbo;with_reducible assumption) | (with_reducible apply zb4;(first | exact Nat.le_refl _ | (simp;done) | omega))))))
        case' rest54=>skip
        refine tkH 0 ?_
        try simp only[PqL,Act.put]
        refine wpAnyH_ready (rs:= [1]) (by kernel_rfl) (by simp) ?_
        refine AllReadyH.cons (o:=_) rfl (fun K hK=>?_) AllReadyH.nil
        go_simp
        refine (HC.out A2 n2 c2 _ hOX.hn hOX.drew.sl).mono ?_
        rintro e w3 ⟨rfl,hb3⟩
        try dsimp only
        refine hK.out _ _ ?hS58 (fun hHeld=>?rest58)
        case hS58=>((try dsimp only);(((try go_split_ands);refine zbn ?_;repeat' (first | with_reducible assumption | with_reducible exact Below.refl _ _ | with_reducible apply zbp | with_reducible apply zb3 | with_reducible apply zb2 | (with_reducible apply zbo;with_reducible assumption) | (with_reducible apply zb4;(first | exact Nat.le_refl _ | (simp;done) | omega))))))
        case' rest58=>(clear hK K;try simp only[PqL,Act.put])
        refine tkH 2 ?_
        try simp only[PqL,Act.put]
        refine tkH 3 ?_
        try simp only[PqL,Act.put]
        refine tkH 6 ?_
        try simp only[PqL,Act.put]
        refine tkH 7 ?_
        try simp only[PqL,Act.put]
        refine wpAnyH_ready (rs:= [4]) (by kernel_rfl) (by simp) ?_
        refine AllReadyH.cons (o:=_) rfl (fun K hK=>?_) AllReadyH.nil
        go_simp
        refine (HL.out A2 n2 c2 _ hOX.hn (hOX.drew.below hb3).sl (by first | rfl | trivial)).mono ?_
        rintro e w4 ⟨g4,rfl,hO4,hb4⟩
        try dsimp only
        have t1:=zca 8 hO4.hn hO4.sl
        by_cases heq:L=b
        case pos=>
         rw[heq,← HS2.out] at t1
         refine hK.out _ _ ?hS65 (fun hHeld=>?rest65)
         case hS65=>((try dsimp only);(((try go_split_ands);refine zbn ?_;repeat' (first | with_reducible assumption | with_reducible exact Below.refl _ _ | with_reducible apply zbp | with_reducible apply zb3 | with_reducible apply zb2 | (with_reducible apply zbo;with_reducible assumption) | (with_reducible apply zb4;(first | exact Nat.le_refl _ | (simp;done) | omega))))))
         case' rest65=>(clear hK K;try simp only[PqL,Act.put])
         refine wpAnyH_ready (rs:= [5]) (by kernel_rfl) (by simp) ?_
         refine AllReadyH.cons (o:=_) rfl (fun K hK=>?_) AllReadyH.nil
         go_simp
         refine hK.out _ _ ?hS68 (fun hHeld=>?rest68)
         case hS68=>((try dsimp only);(((try go_split_ands);refine zbn ?_;repeat' (first | with_reducible assumption | with_reducible exact Below.refl _ _ | with_reducible apply zbp | with_reducible apply zb3 | with_reducible apply zb2 | (with_reducible apply zbo;with_reducible assumption) | (with_reducible apply zb4;(first | exact Nat.le_refl _ | (simp;done) | omega))))))
         case' rest68=>(clear hK K;try simp only[PqL,Act.put])
         refine tkH 8 ?_
         try simp only[PqL,Act.put]
         refine tkH 9 ?_
         try simp only[PqL,Act.put]
         refine wpAnyH_done (by kernel_rfl) ?_ _
         have hEnd:=hHeld.2
         repeat (clear hHeld)
         have hm:=HOK.out (by rw[HHIT.out,decide_eq_true heq];rfl)
         have HM:=zak hm
         clear hm heq t1 t2 hO4
         have qmE:=qm.below hEnd lm
         have qrE:=qrX.below hEnd lrX
         have hOE:=hOX.below hEnd
         have hbE:=zbo hEnd hbX
         clear hEnd
         clear qm_c0 qm_c1 qm_c2 qm_c3 qm_c4 qm_c5 qm_c6 qm_c7 qm_c8 qm_c9 qm_c10 qm_c11 qm_c12 qm_c13 qm_f
         clear qm
         simp only[msV,msZ] at qrE
         obtain⟨qmE_c0,qmE_c1,qmE_c2,qmE_c3,qmE_c4,qmE_c5,qmE_c6,qmE_c7,qmE_c8,qmE_c9,qmE_c10,qmE_c11,qmE_c12,qmE_c13⟩:= zbs qmE
         have qmE_f:=qmE.frozen
         obtain⟨qrE_c0,qrE_c1,qrE_c2,qrE_c3,qrE_c4,qrE_c5,qrE_c6,qrE_c7,qrE_c8,qrE_c9,qrE_c10,qrE_c11,qrE_c12,qrE_c13⟩:= zbs qrE
         have qrE_f:=qrE.frozen
         go_wp2_with fail
         refine bodyPost_ret (v:= .tuple #[.agg #[.int .i64 kind,.int .i64 ix,.int .i64 sub,.bool tg,.bool la,.bool cr,.bool sz,.int .u32 (size:Nat),.int .u32 (code:Nat),.slice A2 n2 c2,.int .i64 sq,.int .i64 bl,.int .i64 em,.int .u16 (sum:Nat)],.int .i64 0]) (by simp[results,Try.results61,go_sem,qrE_c0,qrE_c1,qrE_c2,qrE_c3,qrE_c4,qrE_c5,qrE_c6,qrE_c7,qrE_c8,qrE_c9,qrE_c10,qrE_c11,qrE_c12,qrE_c13,qrE_f]) rfl (HE.out _ A2 n2 c2 _ _ HM.out rfl ?_ ?_)
         · exact (zd2 hOE lr _ _ _ _ _ _ _ _ _ _ _ _ _ _).mono hbr.size
         · repeat' (first | with_reducible assumption | with_reducible exact Below.refl _ _ | with_reducible apply zbp | with_reducible apply zb3 | with_reducible apply zb2 | (with_reducible apply zbo;with_reducible assumption) | (with_reducible apply zb4;(first | exact Nat.le_refl _ | (simp;done) | omega)))
        case neg=>
         have HH:Hid (hitB j b=false):= zak (by rw[HHIT.out,decide_eq_false heq,Bool.and_false])
         obtain⟨s1,hs1⟩:∃ s:ByteArray,s=⟨L.toArray⟩:= ⟨_,rfl⟩
         have hx:(s1.toList == s2.toList)=false:=by
          rw[beq_eq_false_iff_ne,hs1,HS2.out]
          intro h
          exact heq (by simpa using h)
         rw[← hs1] at t1
         clear heq hs1
         refine hK.out _ _ ?hS72 (fun hHeld=>?rest72)
         case hS72=>((try dsimp only);(((try go_split_ands);refine zbn ?_;repeat' (first | with_reducible assumption | with_reducible exact Below.refl _ _ | with_reducible apply zbp | with_reducible apply zb3 | with_reducible apply zb2 | (with_reducible apply zbo;with_reducible assumption) | (with_reducible apply zb4;(first | exact Nat.le_refl _ | (simp;done) | omega))))))
         case' rest72=>(clear hK K;try simp only[PqL,Act.put])
         refine wpAnyH_ready (rs:= [5]) (by kernel_rfl) (by simp) ?_
         refine AllReadyH.cons (o:=_) rfl (fun K hK=>?_) AllReadyH.nil
         go_simp
         refine hK.out _ _ ?hS75 (fun hHeld=>?rest75)
         case hS75=>((try dsimp only);(((try go_split_ands);refine zbn ?_;repeat' (first | with_reducible assumption | with_reducible exact Below.refl _ _ | with_reducible apply zbp | with_reducible apply zb3 | with_reducible apply zb2 | (with_reducible apply zbo;with_reducible assumption) | (with_reducible apply zb4;(first | exact Nat.le_refl _ | (simp;done) | omega))))))
         case' rest75=>(clear hK K;try simp only[PqL,Act.put])
         refine tkH 8 ?_
         try simp only[PqL,Act.put]
         refine tkH 9 ?_
         try simp only[PqL,Act.put]
         refine wpAnyH_done (by kernel_rfl) ?_ _
         have hEnd:=hHeld.2
         repeat (clear hHeld)
         clear t1 t2 hO4
         have qrE:=qrX.below hEnd lrX
         have hbE:=zbo hEnd hbX
         clear hEnd
         clear qm_c0 qm_c1 qm_c2 qm_c3 qm_c4 qm_c5 qm_c6 qm_c7 qm_c8 qm_c9 qm_c10 qm_c11 qm_c12 qm_c13 qm_f
         clear qm
         go_wp2_with fail
         go_roundw
         case rel=>exact⟨j+1,t,by omega,HJ.out,by first | rfl | go_num,by rw[HOF.out,HT.out,znu _ _ _ HH.out],hbE,qrE⟩
         case measure=>simp[intOf];omega
end
section
open Go.RowKit
set_option maxRecDepth 100000
set_option maxHeartbeats 2000000
theorem znx (ks:List Int) (A:Option Addr) (n c:Nat) (lo hi:Int) (ab:Bool) (b:List UInt8) (w:World) (hn:n=b.length) (hc:n≤c) (hs:Sl w A (b.map bv)) (hks:ks=upK lo ab hi.toNat 1) (h0:0≤hi) (h21:hi≤21) (l0:0≤lo) (l21:lo≤30) :
 Calls Try.prog 61 #[.slice A n c,.int .i64 lo,.int .i64 hi,.bool ab] w (ReadR ks b w):= by
 by_cases h8:b.length=8
 · obtain rfl:n=8:=by omega
   exact znw ks A c lo hi ab b w h8 hc hs hks h0 h21 l0 l21
 · exact znv ks A n c lo hi ab b w hn h8
theorem zny (A:Option Addr) (n c:Nat) (b:List UInt8) (w:World) (hn:n=b.length) (hc:n≤c) (hs:Sl w A (b.map bv)) :
 Calls Try.prog 39 #[.slice A n c] w (ReadR ansK b w):= by
 have HE:Hid (∀ A' n' c' w',zb7 w' w.heap.size A' n' c' (resM ansK b).data→Below w.heap.size w w'→ReadR ansK b w (.returned (.tuple #[.agg (msV (resM ansK b) A' n' c'),.int .i64 (errI ansK b)])) w'):= zak (fun A' n' c' w' h1 h2=>⟨A',n',c',rfl,h1,h2⟩)
 obtain⟨P,hP⟩:∃ P,P=ReadR ansK b w:=⟨_,rfl⟩
 rw[← hP] at HE ⊢
 clear hP
 have HB:=zak (fun W h1=>znx ansK A n c 12 20 true b W hn hc h1 (by decide) (by decide) (by decide) (by decide) (by decide))
 have q0:=zbu w 72 #[.int .i64 0,.int .i64 0,.int .i64 0,.bool false,.bool false,.bool false,.bool false,.int .u32 0,.int .u32 0,.slice none 0 0,.int .i64 0,.int .i64 0,.int .i64 0,.int .u16 0]
 have hs1:=hs.alloc (.cells #[.int .i64 0,.int .i64 0,.int .i64 0,.bool false,.bool false,.bool false,.bool false,.int .u32 0,.int .u32 0,.slice none 0 0,.int .i64 0,.int .i64 0,.int .i64 0,.int .u16 0] 72)
 clear hn hc
 go_enter Try.func39,Try.ntmps39
 go_wp2_with fail
 have lq:=q0.lt
 have hbw:Below w.heap.size w (w.alloc (.cells #[.int .i64 0,.int .i64 0,.int .i64 0,.bool false,.bool false,.bool false,.bool false,.int .u32 0,.int .u32 0,.slice none 0 0,.int .i64 0,.int .i64 0,.int .i64 0,.int .u16 0] 72)):= (by repeat' (first | with_reducible assumption | with_reducible exact Below.refl _ _ | with_reducible apply zbp | with_reducible apply zb3 | with_reducible apply zb2 | (with_reducible apply zbo;with_reducible assumption) | (with_reducible apply zb4;(first | exact Nat.le_refl _ | (simp;done) | omega))))
 have hsz:w.heap.size≤(w.alloc (.cells #[.int .i64 0,.int .i64 0,.int .i64 0,.bool false,.bool false,.bool false,.bool false,.int .u32 0,.int .u32 0,.slice none 0 0,.int .i64 0,.int .i64 0,.int .i64 0,.int .u16 0] 72)).heap.size:=hbw.size
 generalize w.alloc (.cells #[.int .i64 0,.int .i64 0,.int .i64 0,.bool false,.bool false,.bool false,.bool false,.int .u32 0,.int .u32 0,.slice none 0 0,.int .i64 0,.int .i64 0,.int .i64 0,.int .u16 0] 72)=W at *
 refine (HB.out W hs1).mono ?_
 rintro e w2 ⟨A2,n2,c2,rfl,hO2,hb2⟩
 generalize resM ansK b=N at *
 generalize errI ansK b=er at *
 replace hbw:=zbo hb2 hbw
 have qr:=q0.below hb2 lq
 obtain⟨kind,ix,sub,tg,la,cr,sz,size,code,data,sq,bl,em,sum⟩:= N
 simp only[msV] at hO2 HE ⊢
 obtain⟨qr_c0,qr_c1,qr_c2,qr_c3,qr_c4,qr_c5,qr_c6,qr_c7,qr_c8,qr_c9,qr_c10,qr_c11,qr_c12,qr_c13⟩:= zbs qr
 have qr_f:=qr.frozen
 clear q0 hs1
 go_wp2_with fail
 refine bodyPost_ret (v:= .tuple #[.agg #[.int .i64 kind,.int .i64 ix,.int .i64 sub,.bool tg,.bool la,.bool cr,.bool sz,.int .u32 (size:Nat),.int .u32 (code:Nat),.slice A2 n2 c2,.int .i64 sq,.int .i64 bl,.int .i64 em,.int .u16 (sum:Nat)],.int .i64 er]) (by simp[results,Try.results39,go_sem,qr_c0,qr_c1,qr_c2,qr_c3,qr_c4,qr_c5,qr_c6,qr_c7,qr_c8,qr_c9,qr_c10,qr_c11,qr_c12,qr_c13,qr_f]) rfl (HE.out A2 n2 c2 _ ?_ ?_)
 · exact (zd2 hO2 lq _ _ _ _ _ _ _ _ _ _ _ _ _ _).mono hsz
 · repeat' (first | with_reducible assumption | with_reducible exact Below.refl _ _ | with_reducible apply zbp | with_reducible apply zb3 | with_reducible apply zb2 | (with_reducible apply zbo;with_reducible assumption) | (with_reducible apply zb4;(first | exact Nat.le_refl _ | (simp;done) | omega)))
theorem znz (A:Option Addr) (n c:Nat) (b:List UInt8) (w:World) (hn:n=b.length) (hc:n≤c) (hs:Sl w A (b.map bv)) :
 Calls Try.prog 40 #[.slice A n c] w (ReadR segK b w):= by
 have HE:Hid (∀ A' n' c' w',zb7 w' w.heap.size A' n' c' (resM segK b).data→Below w.heap.size w w'→ReadR segK b w (.returned (.tuple #[.agg (msV (resM segK b) A' n' c'),.int .i64 (errI segK b)])) w'):= zak (fun A' n' c' w' h1 h2=>⟨A',n',c',rfl,h1,h2⟩)
 obtain⟨P,hP⟩:∃ P,P=ReadR segK b w:=⟨_,rfl⟩
 rw[← hP] at HE ⊢
 clear hP
 have HB:=zak (fun W h1=>znx segK A n c 21 21 false b W hn hc h1 (by decide) (by decide) (by decide) (by decide) (by decide))
 have q0:=zbu w 72 #[.int .i64 0,.int .i64 0,.int .i64 0,.bool false,.bool false,.bool false,.bool false,.int .u32 0,.int .u32 0,.slice none 0 0,.int .i64 0,.int .i64 0,.int .i64 0,.int .u16 0]
 have hs1:=hs.alloc (.cells #[.int .i64 0,.int .i64 0,.int .i64 0,.bool false,.bool false,.bool false,.bool false,.int .u32 0,.int .u32 0,.slice none 0 0,.int .i64 0,.int .i64 0,.int .i64 0,.int .u16 0] 72)
 clear hn hc
 go_enter Try.func40,Try.ntmps40
 go_wp2_with fail
 have lq:=q0.lt
 have hbw:Below w.heap.size w (w.alloc (.cells #[.int .i64 0,.int .i64 0,.int .i64 0,.bool false,.bool false,.bool false,.bool false,.int .u32 0,.int .u32 0,.slice none 0 0,.int .i64 0,.int .i64 0,.int .i64 0,.int .u16 0] 72)):= (by repeat' (first | with_reducible assumption | with_reducible exact Below.refl _ _ | with_reducible apply zbp | with_reducible apply zb3 | with_reducible apply zb2 | (with_reducible apply zbo;with_reducible assumption) | (with_reducible apply zb4;(first | exact Nat.le_refl _ | (simp;done) | omega))))
 have hsz:w.heap.size≤(w.alloc (.cells #[.int .i64 0,.int .i64 0,.int .i64 0,.bool false,.bool false,.bool false,.bool false,.int .u32 0,.int .u32 0,.slice none 0 0,.int .i64 0,.int .i64 0,.int .i64 0,.int .u16 0] 72)).heap.size:=hbw.size
 generalize w.alloc (.cells #[.int .i64 0,.int .i64 0,.int .i64 0,.bool false,.bool false,.bool false,.bool false,.int .u32 0,.int .u32 0,.slice none 0 0,.int .i64 0,.int .i64 0,.int .i64 0,.int .u16 0] 72)=W at *
 refine (HB.out W hs1).mono ?_
 rintro e w2 ⟨A2,n2,c2,rfl,hO2,hb2⟩
 generalize resM segK b=N at *
 generalize errI segK b=er at *
 replace hbw:=zbo hb2 hbw
 have qr:=q0.below hb2 lq
 obtain⟨kind,ix,sub,tg,la,cr,sz,size,code,data,sq,bl,em,sum⟩:= N
 simp only[msV] at hO2 HE ⊢
 obtain⟨qr_c0,qr_c1,qr_c2,qr_c3,qr_c4,qr_c5,qr_c6,qr_c7,qr_c8,qr_c9,qr_c10,qr_c11,qr_c12,qr_c13⟩:= zbs qr
 have qr_f:=qr.frozen
 clear q0 hs1
 go_wp2_with fail
 refine bodyPost_ret (v:= .tuple #[.agg #[.int .i64 kind,.int .i64 ix,.int .i64 sub,.bool tg,.bool la,.bool cr,.bool sz,.int .u32 (size:Nat),.int .u32 (code:Nat),.slice A2 n2 c2,.int .i64 sq,.int .i64 bl,.int .i64 em,.int .u16 (sum:Nat)],.int .i64 er]) (by simp[results,Try.results40,go_sem,qr_c0,qr_c1,qr_c2,qr_c3,qr_c4,qr_c5,qr_c6,qr_c7,qr_c8,qr_c9,qr_c10,qr_c11,qr_c12,qr_c13,qr_f]) rfl (HE.out A2 n2 c2 _ ?_ ?_)
 · exact (zd2 hO2 lq _ _ _ _ _ _ _ _ _ _ _ _ _ _).mono hsz
 · repeat' (first | with_reducible assumption | with_reducible exact Below.refl _ _ | with_reducible apply zbp | with_reducible apply zb3 | with_reducible apply zb2 | (with_reducible apply zbo;with_reducible assumption) | (with_reducible apply zb4;(first | exact Nat.le_refl _ | (simp;done) | omega)))
end
end
end Go.Proofs.Ythdbckbpldlkeaa
