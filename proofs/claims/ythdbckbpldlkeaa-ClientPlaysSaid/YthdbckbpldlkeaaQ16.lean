/- None -/
import Derived.Test.YthdbckbpldlkeaaQ15
namespace Go.Proofs.Ythdbckbpldlkeaa
set_option linter.unusedVariables false
set_option linter.unusedSimpArgs false
set_option linter.unnecessarySimpa false
section
open Go.RowKit Go.Maps
set_option maxRecDepth 100000
set_option maxHeartbeats 8000000
section
variable {G:Nat→Prop} {p m:Nat}
def StepC (w:World) (G:Nat→Prop) (p m:Nat) (S:CliS) (M:Ms):Prop:=
 ∀ (W:World) (R:CR) (ks:List KB) (rs:List RB) (A:Option Addr) (n c:Nat),CM w G p m S.wk (cliL S m R) ks rs W→EOk S R→⟨R.A,R.n,R.c,S.b⟩ ∈ rs→R.n2=S.data.length→⟨A,n,c,M.data⟩ ∈ rs→
  Calls Try.prog 38 #[.pointer (some ⟨p,0,none⟩),.agg (msV M A n c)] W (zf4 w G p m (cStepS S M) (cStepL S M))
theorem zf4.shape {w:World} {S:CliS} {L:List Frm} {e:Ending} {w':World} (h:zf4 w G p m S L e w'):∃ As ns cs,e= .returned (.slice As ns cs):= by
 obtain⟨N,As,ns,cs,ds,h1,_⟩:= h
 exact⟨As,ns,cs,h1⟩
theorem zf5 (ks:List Int) (b:List UInt8):(resM ks b).code≤4294967295:=by
 unfold resM
 split
 · have h:∀ ks,∀ x,ofM ks b=some x→x.code≤4294967295:=by
    intro ks
    induction ks with
    | nil=>intro x hx;cases hx
    | cons k ks ih=>
      intro x hx
      unfold ofM at hx
      split at hx
      · injection hx with hx
        subst hx
        exact (zeu k b).2.1
      · exact ih x hx
   cases ho:ofM ks b with
   | none=>exact Nat.zero_le _
   | some x=>exact h ks x ho
 · exact Nat.zero_le _
theorem zf6 (ks:List Int) (b:List UInt8) (h:errI ks b=0):(resM ks b).kind ∈ ks:=by
 unfold errI at h
 unfold resM
 have h1: ¬ b.length < 8:=by intro h1;rw[if_pos h1] at h;cases h
 rw[if_neg h1] at h
 have h2: ¬ 8 < b.length:=by intro h2;rw[if_pos h2] at h;cases h
 rw[if_neg h2] at h
 rw[if_pos (by omega)]
 have k:∀ ks,∀ x,ofM ks b=some x→x.kind ∈ ks:=by
  intro ks
  induction ks with
  | nil=>intro x hx;cases hx
  | cons k ks ih=>
    intro x hx
    unfold ofM at hx
    split at hx
    · injection hx with hx
      subst hx
      exact List.mem_cons_self
    · exact List.mem_cons_of_mem _ (ih x hx)
 cases ho:ofM ks b with
 | none=>rw[ho] at h;simp at h
 | some x=>exact k ks x ho
theorem zf7 (S:CliS) (b:List UInt8) (h:errI (cKs S b) b=0) (h1:(resM (cKs S b) b).kind≠1):12≤(resM (cKs S b) b).kind∧(resM (cKs S b) b).kind≤21:=by
 have:=zf6 _ _ h
 generalize (resM (cKs S b) b).kind=k at this h1
 unfold cKs at this
 split at this
 · simp[segK] at this;omega
 · simp[ansK] at this;omega
theorem zf8 (S:CliS) (f:Frm) (A:Option Addr) (n c:Nat) (w:World) (hS:CV_ w G p m S) (hw:0≤S.wk∧S.wk≤21) (hen:S.en≤4294967295) (hn:n=f.data.length) (hc:n≤c) (hs:Sl w A (f.data.map bv)) (h0:S.wk≠0) (hid:f.id=1408+S.nd) (hre:f.re=false) (h8:f.data.length=8)
 (hst:errI (cKs S f.data) f.data=0→(resM (cKs S f.data) f.data).kind≠1→cFitB S (resM (cKs S f.data) f.data)=true→StepC w G p m S (resM (cKs S f.data) f.data)) :
 Calls Try.prog 16 #[.pointer (some ⟨p,0,none⟩),.agg #[.int .i64 f.id,.bool f.re,.slice A n c]] w (zf4 w G p m (cRecvS S f) (cRecvL S f)):= by
 obtain⟨R,hC,hE,hR2⟩:= hS.cm1 h0
 have H1:Hid (CM w G p m S.wk (cliL S m R) [⟨w.heap.size,34,[.int .i64 f.id,.bool f.re,.slice A n c]⟩] [⟨R.A,R.n,R.c,S.b⟩] (w.alloc (.cells #[.int .i64 f.id,.bool f.re,.slice A n c] 34))):= zak (hC.new _ _ (by decide))
 have HBL:=zak (zbp (Below.refl w.heap.size w) (.cells #[.int .i64 f.id,.bool f.re,.slice A n c] 34))
 have HE:=zak hE
 have HW:=zak hw
 have HR2:=zak hR2
 have HS:=zak hs
 obtain⟨id,re,data⟩:= f
 dsimp only at *
 subst hid
 subst hre
 have HN:=zak hn
 have H8:=zak h8
 obtain⟨P,hP⟩:∃ P,P=zf4 w G p m (cRecvS S ⟨1408+S.nd,false,data⟩) (cRecvL S ⟨1408+S.nd,false,data⟩):= ⟨_,rfl⟩
 have hno: ¬ (S.wk=0∨(1408+S.nd:Int)≠ 1408+S.nd∨false=true∨data.length≠8):= by simp[h0,h8]
 have HP:Hid (∀ e W',(if errI (cKs S data) data=0∧(resM (cKs S data) data).kind=1 then zf4 w G p m (cEnd S (resM (cKs S data) data).code []) [] e W' else if errI (cKs S data) data≠0∨cFitB S (resM (cKs S data) data)=false then zf4 w G p m (cEnd S 84148225 []) (cFailL S 84148225) e W' else zf4 w G p m (cStepS S (resM (cKs S data) data)) (cStepL S (resM (cKs S data) data)) e W')→ P e W'):= zak (fun e W' hh=>by
  rw[hP]
  unfold cRecvS cRecvL
  dsimp only
  rw[if_neg hno,if_neg hno]
  split at hh
  · rename_i hc1
    rw[if_pos hc1,if_pos hc1]
    exact hh
  · rename_i hc1
    rw[if_neg hc1,if_neg hc1]
    split at hh
    · rename_i hc2
      rw[if_pos hc2,if_pos hc2]
      exact hh
    · rename_i hc2
      rw[if_neg hc2,if_neg hc2]
      exact hh)
 rw[← hP]
 have HST:=zak hst
 have HKR:Hid (errI (cKs S data) data=0→(resM (cKs S data) data).kind≠1→12≤(resM (cKs S data) data).kind∧(resM (cKs S data) data).kind≤21):= zak (zf7 S data)
 have HWK:Hid (decide (S.wk≠0)=true):= zak (by simp[h0])
 have h8n:n=8:=by omega
 subst h8n
 have HC8:=zak hc
 obtain⟨x,hx⟩:∃ x,x=data.headD 0:=⟨_,rfl⟩
 have hcx:(data.map bv)[0]? =some (.int .u8 (x.toNat:Nat)):= by
  rw[hx]
  rcases data with _ | ⟨y,data⟩
  · simp at h8
  · rfl
 obtain⟨bb,oo,rfl,hcell⟩:= hs.at_ hcx
 rw[Nat.add_zero] at hcell
 have HX:=zak hx
 have HCL:=zak hcell
 clear hS hC hE hR2 hst hn hP hs hw hno h0 h8 hcx hx hcell
 go_enter Try.func16,Try.ntmps16
 go_upto_region 1 with fail
 refine zcn (P:=fun W1=>CM w G p m S.wk (cliL S m R) [⟨w.heap.size,34,[.int .i64 (1408+S.nd),.bool false,.slice (some ⟨bb,oo,none⟩) 8 c]⟩] [⟨R.A,R.n,R.c,S.b⟩] W1∧Below w.heap.size w W1) ⟨H1.out,HBL.out⟩ (fun W1 h1=>?_)
 clear H1 HBL
 obtain⟨h1,hbl⟩:= h1
 obtain⟨g,hg⟩:∃ g,g=w.heap.size:=⟨_,rfl⟩
 have HG:=zak hg
 rw[← hg] at h1 ⊢
 clear hg
 have HBL:=zak hbl
 have H1:=zak h1
 have z1:=h1.lt
 have q:Blk W1 g 34 #[.int .i64 (1408+S.nd),.bool false,.slice (some ⟨bb,oo,none⟩) 8 c]:= h1.k0
 have zg:=q.lt
 have q0:W1.cell? ⟨g,0,none⟩=some (.int .i64 (1408+S.nd)):= q.cell 0 rfl
 have q1:W1.cell? ⟨g,1,none⟩=some (.bool false):= q.cell 1 rfl
 have q2:W1.cell? ⟨g,2,none⟩=some (.slice (some ⟨bb,oo,none⟩) 8 c):= q.cell 2 rfl
 have b0:W1.cell? ⟨p,0,none⟩=some (.int .i64 (1408+S.nd)):= h1.blk.cell 0 rfl
 clear q h1 hbl
 refine wp_region_held_drew (S:=(fun w'=>(∀ qA:Addr,qA.block < (W1).heap.size→w'.cell? qA=(W1).cell? qA)∧ Below (W1).heap.size (W1) w')) (by kernel_rfl) ?hS1 (fun hHeld=>?rest1)
 case hS1=>((try dsimp only);(((try go_split_ands);refine zbn ?_;all_goals exact bl)))
 case' rest1=>skip
 refine tkH 0 ?_
 try simp only[PqL,Act.put]
 refine wpAnyH_ready (rs:= [1]) (by kernel_rfl) (by simp) ?_
 refine AllReadyH.cons (o:=_) rfl (fun K hK=>?_) .nil
 go_simp
 refine (zcy _ (H1.out.step bl) rfl).mono ?_
 rintro e W2 ⟨rfl,rfl⟩
 rw[show decide (S.wk≠0)=true from HWK.out]
 refine hK.out _ _ ?hS5 (fun hHeld=>?rest5)
 case hS5=>((try dsimp only);(((try go_split_ands);refine zbn ?_;all_goals exact bl)))
 case' rest5=>(clear hK K;try simp only[PqL,Act.put])
 refine tkH 2 ?_
 try simp only[PqL,Act.put]
 refine tkH 3 ?_
 try simp only[PqL,Act.put]
 refine tkH 4 ?_
 try simp only[PqL,Act.put]
 refine tkH 5 ?_
 try simp only[PqL,Act.put]
 refine tkH 6 ?_
 try simp only[PqL,Act.put]
 refine tkH 7 ?_
 try simp only[PqL,Act.put]
 refine tkH 8 ?_
 try simp only[PqL,Act.put]
 refine tkH 9 ?_
 try simp only[PqL,Act.put]
 refine tkH 10 ?_
 try simp only[PqL,Act.put]
 refine tkH 11 ?_
 try simp only[PqL,Act.put]
 refine tkH 12 ?_
 try simp only[PqL,Act.put]
 refine tkH 13 ?_
 try simp only[PqL,Act.put]
 refine tkH 14 ?_
 try simp only[PqL,Act.put]
 refine tkH 15 ?_
 try simp only[PqL,Act.put]
 refine tkH 16 ?_
 try simp only[PqL,Act.put]
 refine tkH 17 ?_
 try simp only[PqL,Act.put]
 refine tkH 18 ?_
 try simp only[PqL,Act.put]
 refine tkH 19 ?_
 try simp only[PqL,Act.put]
 refine tkH 20 ?_
 try simp only[PqL,Act.put]
 refine tkH 21 ?_
 try simp only[PqL,Act.put]
 refine wpAnyH_done (by kernel_rfl) ?_ _
 have hEnd:=hHeld.2
 repeat (clear hHeld)
 go_upto_region 3 with fail
 refine zcn (P:=fun W2=>CM w G p m S.wk (cliL S m R) [⟨g,34,[.int .i64 (1408+S.nd),.bool false,.slice (some ⟨bb,oo,none⟩) 8 c]⟩] [⟨R.A,R.n,R.c,S.b⟩] W2∧Below w.heap.size w W2) ⟨H1.out.step hEnd,HBL.out.trans (hEnd.mono HBL.out.size)⟩ (fun W2 hW2=>?_)
 clear H1 HBL q0 q1 q2 b0 z1 zg hEnd
 obtain⟨h2,hbl⟩:= hW2
 have H2:=zak h2
 have HBL:=zak hbl
 have q:Blk W2 g 34 #[.int .i64 (1408+S.nd),.bool false,.slice (some ⟨bb,oo,none⟩) 8 c]:= h2.k0
 have z2:=h2.lt
 have zg:=q.lt
 have q2:W2.cell? ⟨g,2,none⟩=some (.slice (some ⟨bb,oo,none⟩) 8 c):= q.cell 2 rfl
 have hxc:W2.cell? ⟨bb,oo,none⟩=some (.int .u8 (x.toNat:Nat)):= (hbl.cell (zal HCL.out)).trans HCL.out
 have HS2:=zak (HS.out.below hbl)
 clear q h2 hbl
 by_cases h21:S.wk=21
 · have dw:decide (S.wk=21)=true:=decide_eq_true h21
   have H21:=zak h21
   clear h21
   by_cases hx8:x=128
   · have dx:((x.toNat:Int) != 128)=false:=by rw[hx8];rfl
     have HX8:=zak hx8
     clear hx8
     go_wp2_with fail
     refine (zcx 21 _ H2.out rfl HW.out ⟨by omega,by omega⟩ (by omega)).mono ?_
     rintro e W3 ⟨rfl,rfl⟩
     rw[dw]
     go_wp2_with fail
     refine (ze2 (some ⟨bb,oo,none⟩) 8 c data _ HN.out HC8.out HS2.out).mono ?_
     rintro e w3 ⟨A3,n3,c3,rfl,hO,hb⟩
     have hks:cKs S data=ansK:=by unfold cKs;rw[if_neg (fun h=>h.2 (HX.out.symm.trans HX8.out))]
     rw[hks] at HP HST HKR
     have hcode:=zf5 ansK data
     obtain⟨M,hM⟩:∃ M,M=resM ansK data:=⟨_,rfl⟩
     obtain⟨er,her⟩:∃ er,er=errI ansK data:=⟨_,rfl⟩
     rw[← hM] at HP HST hO hcode HKR
     rw[← her] at HP HST HKR
     rw[← hM,← her]
     have h3:=(H2.out.step hb).row (hO.mono (HBL.out.size))
     have H4:Hid (CM w G p m S.wk (cliL S m R) (⟨w3.heap.size,63,(msV M A3 n3 c3).toList⟩ :: [⟨g,34,[.int .i64 (1408+S.nd),.bool false,.slice (some ⟨bb,oo,none⟩) 8 c]⟩]) [⟨A3,n3,c3,M.data⟩,⟨R.A,R.n,R.c,S.b⟩] (w3.alloc (.cells (msV M A3 n3 c3) 63))):= zak (h3.new _ _ (by decide))
     have q4:=zbu w3 63 (msV M A3 n3 c3)
     have HCO:=zak hcode
     clear hks hM her h3 hO hb hcode hxc q2 zg z2 H2 HS2
     have z4:=H4.out.lt
     have hz0:=w3.heap.size
     unfold msV at q4
     obtain⟨q4_c0,q4_c1,q4_c2,q4_c3,q4_c4,q4_c5,q4_c6,q4_c7,q4_c8,q4_c9,q4_c10,q4_c11,q4_c12,q4_c13⟩:= zbs q4
     have q4_f:=q4.frozen
     have HMV:=zak (show msV M A3 n3 c3=msV M A3 n3 c3 from rfl)
     clear hz0 HMV
     by_cases he:er=0
     · have d1:(er == 0)=true:=by simp[he]
       have d2:(er != 0)=false:=by simp[he]
       have HER:=zak he
       have hrange0:=zak (HKR.out he)
       clear he HKR
       by_cases hk1:M.kind=1
       · have dk:(M.kind == 1)=true:=by simp[hk1]
         have HK1:=zak hk1
         clear hk1
         unfold msV at H4 ⊢
         go_wp2_with fail
         refine (zc1 M.code none 0 0 [] _ H4.out rfl rfl HW.out rfl (by omega) (fun _ _=>Sl.nil _ _)).mono ?_
         rintro e W5 ⟨rfl,A5,c5,h5⟩
         have HF:=zak (zfq (S:=cEnd S M.code []) (R:={ R with A2:=A5,n2:=0,c2:=c5 }) h5 HE.out (fun h=>absurd rfl h) rfl (fun h=>absurd rfl h))
         clear h5
         go_wp2_with fail
         exact HP.out _ _ (by rw[if_pos ⟨HER.out,HK1.out⟩];exact HF.out)
       · have dk:(M.kind == 1)=false:=by simp[hk1]
         have HK1:=zak hk1
         have hrange:=hrange0.out hk1
         have HFT:=zak (fun W h=>zfx (w0:=w) (G:=G) (p:=p) (m:=m) (rs:= [⟨A3,n3,c3,M.data⟩,⟨R.A,R.n,R.c,S.b⟩]) (ks:=⟨w3.heap.size,63,(msV M A3 n3 c3).toList⟩ :: [⟨g,34,[.int .i64 (1408+S.nd),.bool false,.slice (some ⟨bb,oo,none⟩) 8 c]⟩]) S R M A3 n3 c3 W h HW.out hrange)
         clear hk1 hrange
         unfold msV at H4 HFT ⊢
         go_wp2_with fail
         refine (HFT.out _ H4.out).mono ?_
         rintro e W5 ⟨rfl,hb5⟩
         have H5:=zak (H4.out.step hb5)
         have q5:Blk W5 w3.heap.size 63 (msV M A3 n3 c3):= H5.out.k0
         have zq5:=q5.lt
         have z5:=H5.out.lt
         clear hb5 HFT H4
         clear q4_c0 q4_c1 q4_c2 q4_c3 q4_c4 q4_c5 q4_c6 q4_c7 q4_c8 q4_c9 q4_c10 q4_c11 q4_c12 q4_c13 q4_f
         unfold msV at q5
         obtain⟨q5_c0,q5_c1,q5_c2,q5_c3,q5_c4,q5_c5,q5_c6,q5_c7,q5_c8,q5_c9,q5_c10,q5_c11,q5_c12,q5_c13⟩:= zbs q5
         have q5_f:=q5.frozen
         cases hft:cFitB S M
         · have HFI:=zak hft
           clear hft q4
           go_wp2_with fail
           refine (zfs S R 84148225 _ H5.out HW.out HE.out (by omega)).mono ?_
           rintro e W6 hR
           obtain⟨As,ns,cs,rfl⟩:= hR.shape
           have HR:=zak hR
           clear hR
           go_wp2_with fail
           exact HP.out _ _ (by rw[if_neg (fun h=>HK1.out h.2),if_pos (.inr HFI.out)];exact HR.out)
         · have HFI:=zak hft
           clear hft q4
           have HSC:=zak (HST.out HER.out HK1.out HFI.out _ R _ _ A3 n3 c3 H5.out HE.out (by simp) HR2.out (by simp))
           unfold msV at HSC
           go_wp2_with fail
           refine HSC.out.mono ?_
           rintro e W6 hR
           obtain⟨As,ns,cs,rfl⟩:= hR.shape
           have HR:=zak hR
           clear hR
           go_wp2_with fail
           exact HP.out _ _ (by rw[if_neg (fun h=>HK1.out h.2),if_neg (by rintro (h | h);exact h HER.out;rw[HFI.out] at h;cases h)];exact HR.out)
     · have d1:(er == 0)=false:=by simp[he]
       have d2:(er != 0)=true:=by simp[he]
       have HER:=zak he
       clear he
       unfold msV at H4 ⊢
       go_wp2_with fail
       refine (zfs S R 84148225 _ H4.out HW.out HE.out (by omega)).mono ?_
       rintro e W6 hR
       obtain⟨As,ns,cs,rfl⟩:= hR.shape
       have HR:=zak hR
       clear hR
       go_wp2_with fail
       exact HP.out _ _ (by rw[if_neg (fun h=>HER.out h.1),if_pos (.inl HER.out)];exact HR.out)
   · have dx:((x.toNat:Int) != 128)=true:=by have:x.toNat≠128:=fun h=>hx8 (UInt8.toNat_inj.1 h);simp;omega
     have HX8:=zak hx8
     clear hx8
     go_wp2_with fail
     refine (zcx 21 _ H2.out rfl HW.out ⟨by omega,by omega⟩ (by omega)).mono ?_
     rintro e W3 ⟨rfl,rfl⟩
     rw[dw]
     go_wp2_with fail
     refine (ze3 (some ⟨bb,oo,none⟩) 8 c data _ HN.out HC8.out HS2.out).mono ?_
     rintro e w3 ⟨A3,n3,c3,rfl,hO,hb⟩
     have hks:cKs S data=segK:=by unfold cKs;rw[if_pos ⟨H21.out,fun h=>HX8.out (HX.out.trans h)⟩]
     rw[hks] at HP HST HKR
     have hcode:=zf5 segK data
     obtain⟨M,hM⟩:∃ M,M=resM segK data:=⟨_,rfl⟩
     obtain⟨er,her⟩:∃ er,er=errI segK data:=⟨_,rfl⟩
     rw[← hM] at HP HST hO hcode HKR
     rw[← her] at HP HST HKR
     rw[← hM,← her]
     have h3:=(H2.out.step hb).row (hO.mono (HBL.out.size))
     have H4:Hid (CM w G p m S.wk (cliL S m R) (⟨w3.heap.size,63,(msV M A3 n3 c3).toList⟩ :: [⟨g,34,[.int .i64 (1408+S.nd),.bool false,.slice (some ⟨bb,oo,none⟩) 8 c]⟩]) [⟨A3,n3,c3,M.data⟩,⟨R.A,R.n,R.c,S.b⟩] (w3.alloc (.cells (msV M A3 n3 c3) 63))):= zak (h3.new _ _ (by decide))
     have q4:=zbu w3 63 (msV M A3 n3 c3)
     have HCO:=zak hcode
     clear hks hM her h3 hO hb hcode hxc q2 zg z2 H2 HS2
     have z4:=H4.out.lt
     have hz0:=w3.heap.size
     unfold msV at q4
     obtain⟨q4_c0,q4_c1,q4_c2,q4_c3,q4_c4,q4_c5,q4_c6,q4_c7,q4_c8,q4_c9,q4_c10,q4_c11,q4_c12,q4_c13⟩:= zbs q4
     have q4_f:=q4.frozen
     have HMV:=zak (show msV M A3 n3 c3=msV M A3 n3 c3 from rfl)
     clear hz0 HMV
     by_cases he:er=0
     · have d1:(er == 0)=true:=by simp[he]
       have d2:(er != 0)=false:=by simp[he]
       have HER:=zak he
       have hrange0:=zak (HKR.out he)
       clear he HKR
       by_cases hk1:M.kind=1
       · have dk:(M.kind == 1)=true:=by simp[hk1]
         have HK1:=zak hk1
         clear hk1
         unfold msV at H4 ⊢
         go_wp2_with fail
         refine (zc1 M.code none 0 0 [] _ H4.out rfl rfl HW.out rfl (by omega) (fun _ _=>Sl.nil _ _)).mono ?_
         rintro e W5 ⟨rfl,A5,c5,h5⟩
         have HF:=zak (zfq (S:=cEnd S M.code []) (R:={ R with A2:=A5,n2:=0,c2:=c5 }) h5 HE.out (fun h=>absurd rfl h) rfl (fun h=>absurd rfl h))
         clear h5
         go_wp2_with fail
         exact HP.out _ _ (by rw[if_pos ⟨HER.out,HK1.out⟩];exact HF.out)
       · have dk:(M.kind == 1)=false:=by simp[hk1]
         have HK1:=zak hk1
         have hrange:=hrange0.out hk1
         have HFT:=zak (fun W h=>zfx (w0:=w) (G:=G) (p:=p) (m:=m) (rs:= [⟨A3,n3,c3,M.data⟩,⟨R.A,R.n,R.c,S.b⟩]) (ks:=⟨w3.heap.size,63,(msV M A3 n3 c3).toList⟩ :: [⟨g,34,[.int .i64 (1408+S.nd),.bool false,.slice (some ⟨bb,oo,none⟩) 8 c]⟩]) S R M A3 n3 c3 W h HW.out hrange)
         clear hk1 hrange
         unfold msV at H4 HFT ⊢
         go_wp2_with fail
         refine (HFT.out _ H4.out).mono ?_
         rintro e W5 ⟨rfl,hb5⟩
         have H5:=zak (H4.out.step hb5)
         have q5:Blk W5 w3.heap.size 63 (msV M A3 n3 c3):= H5.out.k0
         have zq5:=q5.lt
         have z5:=H5.out.lt
         clear hb5 HFT H4
         clear q4_c0 q4_c1 q4_c2 q4_c3 q4_c4 q4_c5 q4_c6 q4_c7 q4_c8 q4_c9 q4_c10 q4_c11 q4_c12 q4_c13 q4_f
         unfold msV at q5
         obtain⟨q5_c0,q5_c1,q5_c2,q5_c3,q5_c4,q5_c5,q5_c6,q5_c7,q5_c8,q5_c9,q5_c10,q5_c11,q5_c12,q5_c13⟩:= zbs q5
         have q5_f:=q5.frozen
         cases hft:cFitB S M
         · have HFI:=zak hft
           clear hft q4
           go_wp2_with fail
           refine (zfs S R 84148225 _ H5.out HW.out HE.out (by omega)).mono ?_
           rintro e W6 hR
           obtain⟨As,ns,cs,rfl⟩:= hR.shape
           have HR:=zak hR
           clear hR
           go_wp2_with fail
           exact HP.out _ _ (by rw[if_neg (fun h=>HK1.out h.2),if_pos (.inr HFI.out)];exact HR.out)
         · have HFI:=zak hft
           clear hft q4
           have HSC:=zak (HST.out HER.out HK1.out HFI.out _ R _ _ A3 n3 c3 H5.out HE.out (by simp) HR2.out (by simp))
           unfold msV at HSC
           go_wp2_with fail
           refine HSC.out.mono ?_
           rintro e W6 hR
           obtain⟨As,ns,cs,rfl⟩:= hR.shape
           have HR:=zak hR
           clear hR
           go_wp2_with fail
           exact HP.out _ _ (by rw[if_neg (fun h=>HK1.out h.2),if_neg (by rintro (h | h);exact h HER.out;rw[HFI.out] at h;cases h)];exact HR.out)
     · have d1:(er == 0)=false:=by simp[he]
       have d2:(er != 0)=true:=by simp[he]
       have HER:=zak he
       clear he
       unfold msV at H4 ⊢
       go_wp2_with fail
       refine (zfs S R 84148225 _ H4.out HW.out HE.out (by omega)).mono ?_
       rintro e W6 hR
       obtain⟨As,ns,cs,rfl⟩:= hR.shape
       have HR:=zak hR
       clear hR
       go_wp2_with fail
       exact HP.out _ _ (by rw[if_neg (fun h=>HER.out h.1),if_pos (.inl HER.out)];exact HR.out)
 · have dw:decide (S.wk=21)=false:=decide_eq_false h21
   have H21:=zak h21
   clear h21
   go_wp2_with fail
   refine (zcx 21 _ H2.out rfl HW.out ⟨by omega,by omega⟩ (by omega)).mono ?_
   rintro e W3 ⟨rfl,rfl⟩
   rw[dw]
   go_wp2_with fail
   refine (ze2 (some ⟨bb,oo,none⟩) 8 c data _ HN.out HC8.out HS2.out).mono ?_
   rintro e w3 ⟨A3,n3,c3,rfl,hO,hb⟩
   have hks:cKs S data=ansK:=by unfold cKs;rw[if_neg (fun h=>H21.out h.1)]
   rw[hks] at HP HST HKR
   have hcode:=zf5 ansK data
   obtain⟨M,hM⟩:∃ M,M=resM ansK data:=⟨_,rfl⟩
   obtain⟨er,her⟩:∃ er,er=errI ansK data:=⟨_,rfl⟩
   rw[← hM] at HP HST hO hcode HKR
   rw[← her] at HP HST HKR
   rw[← hM,← her]
   have h3:=(H2.out.step hb).row (hO.mono (HBL.out.size))
   have H4:Hid (CM w G p m S.wk (cliL S m R) (⟨w3.heap.size,63,(msV M A3 n3 c3).toList⟩ :: [⟨g,34,[.int .i64 (1408+S.nd),.bool false,.slice (some ⟨bb,oo,none⟩) 8 c]⟩]) [⟨A3,n3,c3,M.data⟩,⟨R.A,R.n,R.c,S.b⟩] (w3.alloc (.cells (msV M A3 n3 c3) 63))):= zak (h3.new _ _ (by decide))
   have q4:=zbu w3 63 (msV M A3 n3 c3)
   have HCO:=zak hcode
   clear hks hM her h3 hO hb hcode hxc q2 zg z2 H2 HS2
   have z4:=H4.out.lt
   have hz0:=w3.heap.size
   unfold msV at q4
   obtain⟨q4_c0,q4_c1,q4_c2,q4_c3,q4_c4,q4_c5,q4_c6,q4_c7,q4_c8,q4_c9,q4_c10,q4_c11,q4_c12,q4_c13⟩:= zbs q4
   have q4_f:=q4.frozen
   have HMV:=zak (show msV M A3 n3 c3=msV M A3 n3 c3 from rfl)
   clear hz0 HMV
   by_cases he:er=0
   · have d1:(er == 0)=true:=by simp[he]
     have d2:(er != 0)=false:=by simp[he]
     have HER:=zak he
     have hrange0:=zak (HKR.out he)
     clear he HKR
     by_cases hk1:M.kind=1
     · have dk:(M.kind == 1)=true:=by simp[hk1]
       have HK1:=zak hk1
       clear hk1
       unfold msV at H4 ⊢
       go_wp2_with fail
       refine (zc1 M.code none 0 0 [] _ H4.out rfl rfl HW.out rfl (by omega) (fun _ _=>Sl.nil _ _)).mono ?_
       rintro e W5 ⟨rfl,A5,c5,h5⟩
       have HF:=zak (zfq (S:=cEnd S M.code []) (R:={ R with A2:=A5,n2:=0,c2:=c5 }) h5 HE.out (fun h=>absurd rfl h) rfl (fun h=>absurd rfl h))
       clear h5
       go_wp2_with fail
       exact HP.out _ _ (by rw[if_pos ⟨HER.out,HK1.out⟩];exact HF.out)
     · have dk:(M.kind == 1)=false:=by simp[hk1]
       have HK1:=zak hk1
       have hrange:=hrange0.out hk1
       have HFT:=zak (fun W h=>zfx (w0:=w) (G:=G) (p:=p) (m:=m) (rs:= [⟨A3,n3,c3,M.data⟩,⟨R.A,R.n,R.c,S.b⟩]) (ks:=⟨w3.heap.size,63,(msV M A3 n3 c3).toList⟩ :: [⟨g,34,[.int .i64 (1408+S.nd),.bool false,.slice (some ⟨bb,oo,none⟩) 8 c]⟩]) S R M A3 n3 c3 W h HW.out hrange)
       clear hk1 hrange
       unfold msV at H4 HFT ⊢
       go_wp2_with fail
       refine (HFT.out _ H4.out).mono ?_
       rintro e W5 ⟨rfl,hb5⟩
       have H5:=zak (H4.out.step hb5)
       have q5:Blk W5 w3.heap.size 63 (msV M A3 n3 c3):= H5.out.k0
       have zq5:=q5.lt
       have z5:=H5.out.lt
       clear hb5 HFT H4
       clear q4_c0 q4_c1 q4_c2 q4_c3 q4_c4 q4_c5 q4_c6 q4_c7 q4_c8 q4_c9 q4_c10 q4_c11 q4_c12 q4_c13 q4_f
       unfold msV at q5
       obtain⟨q5_c0,q5_c1,q5_c2,q5_c3,q5_c4,q5_c5,q5_c6,q5_c7,q5_c8,q5_c9,q5_c10,q5_c11,q5_c12,q5_c13⟩:= zbs q5
       have q5_f:=q5.frozen
       cases hft:cFitB S M
       · have HFI:=zak hft
         clear hft q4
         go_wp2_with fail
         refine (zfs S R 84148225 _ H5.out HW.out HE.out (by omega)).mono ?_
         rintro e W6 hR
         obtain⟨As,ns,cs,rfl⟩:= hR.shape
         have HR:=zak hR
         clear hR
         go_wp2_with fail
         exact HP.out _ _ (by rw[if_neg (fun h=>HK1.out h.2),if_pos (.inr HFI.out)];exact HR.out)
       · have HFI:=zak hft
         clear hft q4
         have HSC:=zak (HST.out HER.out HK1.out HFI.out _ R _ _ A3 n3 c3 H5.out HE.out (by simp) HR2.out (by simp))
         unfold msV at HSC
         go_wp2_with fail
         refine HSC.out.mono ?_
         rintro e W6 hR
         obtain⟨As,ns,cs,rfl⟩:= hR.shape
         have HR:=zak hR
         clear hR
         go_wp2_with fail
         exact HP.out _ _ (by rw[if_neg (fun h=>HK1.out h.2),if_neg (by rintro (h | h);exact h HER.out;rw[HFI.out] at h;cases h)];exact HR.out)
   · have d1:(er == 0)=false:=by simp[he]
     have d2:(er != 0)=true:=by simp[he]
     have HER:=zak he
     clear he
     unfold msV at H4 ⊢
     go_wp2_with fail
     refine (zfs S R 84148225 _ H4.out HW.out HE.out (by omega)).mono ?_
     rintro e W6 hR
     obtain⟨As,ns,cs,rfl⟩:= hR.shape
     have HR:=zak hR
     clear hR
     go_wp2_with fail
     exact HP.out _ _ (by rw[if_neg (fun h=>HER.out h.1),if_pos (.inl HER.out)];exact HR.out)
end
end
end Go.Proofs.Ythdbckbpldlkeaa
