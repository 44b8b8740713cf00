/- None -/
import Derived.Test.YtkkpjbjmhaecjaaGreatT43
namespace Go.Proofs.YtkkpjbjmhaecjaaGreat
set_option linter.all false
set_option maxRecDepth 100000
set_option maxHeartbeats 8000000
section
open Go.RowKit Go.Maps
section
variable {G:Nat→Prop} {p m:Nat}
def StepC (w:World) (G:Nat→Prop) (p m:Nat) (S:CliS) (M:Ms):Prop:=
 ∀(W:World) (R:CR) (ks:List KB) (rs:List RB) (A:Option Addr) (n c:Nat),CM w G p m S.wk (cliL S m R) ks rs W→EOk S R→⟨R.A,R.n,R.c,S.b⟩ ∈ rs→R.n2=S.data.length→⟨A,n,c,M.data⟩ ∈ rs→
  Calls Tryz.prog 143 #[.pointer (some ⟨p,0,none⟩),.agg (msV M A n c)] W (zw3 w G p m (cStepS S M) (cStepL S M))
theorem zw3.shape {w:World}{S:CliS}{L:List Frm}{e:Ending}{w':World}(h:zw3 w G p m S L e w'):∃As ns cs,e= .returned (.slice As ns cs):=by
 obtain⟨N,As,ns,cs,ds,h1,_⟩:=h;exact⟨As,ns,cs,h1⟩
theorem zw4 (ks:List Int)(b:List UInt8):(resM ks b).code≤4294967295:=by
 unfold resM;split
 · have h:∀ks,∀x,ofM ks b=some x→x.code≤4294967295:=by
    intro ks
    induction ks with
    | nil=>intro x hx;cases hx
    | cons k ks ih=>
      intro x hx;unfold ofM at hx;split at hx
      · injection hx with hx
        subst hx;exact (zgg k b).2.1
      · exact ih x hx
   cases ho:ofM ks b with
   | none=>exact Nat.zero_le _
   | some x=>exact h ks x ho
 · exact Nat.zero_le _
theorem zw5 (ks:List Int)(b:List UInt8)(h:errI ks b=0):(resM ks b).kind ∈ ks:=by
 unfold errI at h;unfold resM;have h1: ¬b.length < 8:=by intro h1;rw[if_pos h1] at h;cases h
 rw[if_neg h1] at h;have h2: ¬ 8 < b.length:=by intro h2;rw[if_pos h2] at h;cases h
 rw[if_neg h2] at h;rw[if_pos (by omega)];have k:∀ks,∀x,ofM ks b=some x→x.kind ∈ ks:=by
  intro ks
  induction ks with
  | nil=>intro x hx;cases hx
  | cons k ks ih=>
    intro x hx;unfold ofM at hx;split at hx
    · injection hx with hx
      subst hx;exact List.mem_cons_self
    · exact List.mem_cons_of_mem _ (ih x hx)
 cases ho:ofM ks b with
 | none=>rw[ho] at h;simp at h
 | some x=>exact k ks x ho
theorem zw6 (S:CliS)(b:List UInt8)(h:errI (cKs S b) b=0)(h1:(resM (cKs S b) b).kind≠1):12≤(resM (cKs S b) b).kind∧(resM (cKs S b) b).kind≤21:=by
 have:=zw5 _ _ h
 generalize (resM (cKs S b) b).kind=k at this h1;unfold cKs at this;split at this
 · simp[segK] at this;omega
 · simp[ansK] at this;omega
theorem zw8 (S:CliS)(f:Frm)(A:Option Addr)(n c:Nat)(w:World)(hS:CV_ w G p m S)(hw:0≤S.wk∧S.wk≤21)(hen:S.en≤4294967295)(hn:n=f.data.length)(hc:n≤c)(hs:Sl w A (f.data.map bv))(h0:S.wk≠0)(hid:f.id=1408+S.nd)(hre:f.re=false)(h8:f.data.length=8)
 (hst:errI (cKs S f.data) f.data=0→(resM (cKs S f.data) f.data).kind≠1→cFitB S (resM (cKs S f.data) f.data)=true→StepC w G p m S (resM (cKs S f.data) f.data)) :
 Calls Tryz.prog 78 #[.pointer (some ⟨p,0,none⟩),.agg #[.int .i64 f.id,.bool f.re,.slice A n c]] w (zw3 w G p m (cRecvS S f) (cRecvL S f)):=by
 obtain⟨R,hC,hE,hR2⟩:=hS.cm1 h0;have H1:Hid (CM w G p m S.wk (cliL S m R) [⟨w.heap.size,69,[.int .i64 f.id,.bool f.re,.slice A n c]⟩] [⟨R.A,R.n,R.c,S.b⟩] (w.alloc (.cells #[.int .i64 f.id,.bool f.re,.slice A n c] 69))):=zak (hC.new _ _ (by decide));have HBL:=zak (zc5 (Below.refl w.heap.size w) (.cells #[.int .i64 f.id,.bool f.re,.slice A n c] 69));have HE:=zak hE;have HW:=zak hw;have HR2:=zak hR2;have HS:=zak hs;obtain⟨id,re,data⟩:=f;dsimp only at *
 subst hid;subst hre;have HN:=zak hn;have H8:=zak h8;obtain⟨P,hP⟩:∃P,P=zw3 w G p m (cRecvS S ⟨1408+S.nd,false,data⟩) (cRecvL S ⟨1408+S.nd,false,data⟩):=⟨_,rfl⟩;have hno: ¬(S.wk=0∨(1408+S.nd:Int)≠ 1408+S.nd∨false=true∨data.length≠8):=by simp[h0,h8]
 have HP:Hid (∀e W',(if errI (cKs S data) data=0∧(resM (cKs S data) data).kind=1 then zw3 w G p m (cEnd S (resM (cKs S data) data).code []) [] e W' else if errI (cKs S data) data≠0∨cFitB S (resM (cKs S data) data)=false then zw3 w G p m (cEnd S 84148225 []) (cFailL S 84148225) e W' else zw3 w G p m (cStepS S (resM (cKs S data) data)) (cStepL S (resM (cKs S data) data)) e W')→ P e W'):=zak (fun e W' hh=>by
  rw[hP];unfold cRecvS cRecvL;dsimp only;rw[if_neg hno,if_neg hno];split at hh
  · rename_i hc1;rw[if_pos hc1,if_pos hc1];exact hh
  · rename_i hc1;rw[if_neg hc1,if_neg hc1];split at hh
    · rename_i hc2;rw[if_pos hc2,if_pos hc2];exact hh
    · rename_i hc2;rw[if_neg hc2,if_neg hc2];exact hh)
 rw[←hP];have HST:=zak hst;have HKR:Hid (errI (cKs S data) data=0→(resM (cKs S data) data).kind≠1→12≤(resM (cKs S data) data).kind∧(resM (cKs S data) data).kind≤21):=zak (zw6 S data);have HWK:Hid (decide (S.wk≠0)=true):=zak (by simp[h0]);have h8n:n=8:=by omega
 subst h8n;have HC8:=zak hc;obtain⟨x,hx⟩:∃x,x=data.headD 0:=⟨_,rfl⟩;have hcx:(data.map bv)[0]? =some (.int .u8 (x.toNat:Nat)):=by
  rw[hx];rcases data with _ | ⟨y,data⟩
  · simp at h8
  · rfl
 obtain⟨bb,oo,rfl,hcell⟩:=hs.at_ hcx;rw[Nat.add_zero] at hcell;have HX:=zak hx;have HCL:=zak hcell;clear hS hC hE hR2 hst hn hP hs hw hno h0 h8 hcx hx hcell;go_enter Tryz.func78,Tryz.ntmps78
 go_upto_region 1 with fail
 refine zed (P:=fun W1=>CM w G p m S.wk (cliL S m R) [⟨w.heap.size,69,[.int .i64 (1408+S.nd),.bool false,.slice (some ⟨bb,oo,none⟩) 8 c]⟩] [⟨R.A,R.n,R.c,S.b⟩] W1∧Below w.heap.size w W1) ⟨H1.out,HBL.out⟩ (fun W1 h1=>?_);clear H1 HBL;obtain⟨h1,hbl⟩:=h1;obtain⟨g,hg⟩:∃g,g=w.heap.size:=⟨_,rfl⟩;have HG:=zak hg;rw[←hg] at h1 ⊢;clear hg;have HBL:=zak hbl;have H1:=zak h1;have z1:=h1.lt;have q:Blk W1 g 69 #[.int .i64 (1408+S.nd),.bool false,.slice (some ⟨bb,oo,none⟩) 8 c]:=h1.k0;have zg:=q.lt;have q0:W1.cell? ⟨g,0,none⟩=some (.int .i64 (1408+S.nd)):=q.cell 0 rfl;have q1:W1.cell? ⟨g,1,none⟩=some (.bool false):=q.cell 1 rfl
 have q2:W1.cell? ⟨g,2,none⟩=some (.slice (some ⟨bb,oo,none⟩) 8 c):=q.cell 2 rfl;have b0:W1.cell? ⟨p,0,none⟩=some (.int .i64 (1408+S.nd)):=h1.blk.cell 0 rfl;clear q h1 hbl;refine wp_region_held_drew (S:=(fun w'=>(∀qA:Addr,qA.block < (W1).heap.size→w'.cell? qA=(W1).cell? qA)∧ Below (W1).heap.size (W1) w')) (by kernel_rfl) ?hS1 (fun hHeld=>?rest1)
 case hS1=>exact kSn
 case' rest1=>skip
 refine tkH 0 ?_;try simp only[PqL,Act.put]
 refine kRd 1 (fun K hK=>?_)
 go_simp
 refine (zeo _ (H1.out.step kBl) rfl).mono ?_;rintro e W2 ⟨rfl,rfl⟩;rw[show decide (S.wk≠0)=true from HWK.out];refine hK.out _ _ ?hS5 (fun hHeld=>?rest5)
 case hS5=>exact kSn
 case' rest5=>(clear hK K;try simp only[PqL,Act.put])
 refine tkH 2 ?_;try simp only[PqL,Act.put]
 refine tkH 3 ?_;try simp only[PqL,Act.put]
 refine tkH 4 ?_;try simp only[PqL,Act.put]
 refine tkH 5 ?_;try simp only[PqL,Act.put]
 refine tkH 6 ?_;try simp only[PqL,Act.put]
 refine tkH 7 ?_;try simp only[PqL,Act.put]
 refine tkH 8 ?_;try simp only[PqL,Act.put]
 refine tkH 9 ?_;try simp only[PqL,Act.put]
 refine tkH 10 ?_;try simp only[PqL,Act.put]
 refine tkH 11 ?_;try simp only[PqL,Act.put]
 refine tkH 12 ?_;try simp only[PqL,Act.put]
 refine tkH 13 ?_;try simp only[PqL,Act.put]
 refine tkH 14 ?_;try simp only[PqL,Act.put]
 refine tkH 15 ?_;try simp only[PqL,Act.put]
 refine tkH 16 ?_;try simp only[PqL,Act.put]
 refine tkH 17 ?_;try simp only[PqL,Act.put]
 refine tkH 18 ?_;try simp only[PqL,Act.put]
 refine tkH 19 ?_;try simp only[PqL,Act.put]
 refine tkH 20 ?_;try simp only[PqL,Act.put]
 refine tkH 21 ?_;try simp only[PqL,Act.put]
 refine wpAnyH_done (by kernel_rfl) ?_ _;have hEnd:=hHeld.2
 repeat (clear hHeld)
 go_upto_region 3 with fail
 refine zed (P:=fun W2=>CM w G p m S.wk (cliL S m R) [⟨g,69,[.int .i64 (1408+S.nd),.bool false,.slice (some ⟨bb,oo,none⟩) 8 c]⟩] [⟨R.A,R.n,R.c,S.b⟩] W2∧Below w.heap.size w W2) ⟨H1.out.step hEnd,HBL.out.trans (hEnd.mono HBL.out.size)⟩ (fun W2 hW2=>?_);clear H1 HBL q0 q1 q2 b0 z1 zg hEnd;obtain⟨h2,hbl⟩:=hW2;have H2:=zak h2;have HBL:=zak hbl;have q:Blk W2 g 69 #[.int .i64 (1408+S.nd),.bool false,.slice (some ⟨bb,oo,none⟩) 8 c]:=h2.k0;have z2:=h2.lt;have zg:=q.lt;have q2:W2.cell? ⟨g,2,none⟩=some (.slice (some ⟨bb,oo,none⟩) 8 c):=q.cell 2 rfl;have hxc:W2.cell? ⟨bb,oo,none⟩=some (.int .u8 (x.toNat:Nat)):=(hbl.cell (zal HCL.out)).trans HCL.out
 have HS2:=zak (HS.out.below hbl);clear q h2 hbl;by_cases h21:S.wk=21
 · have dw:decide (S.wk=21)=true:=decide_eq_true h21;have H21:=zak h21;clear h21;by_cases hx8:x=128
   · have dx:((x.toNat:Int) != 128)=false:=by rw[hx8];rfl
     have HX8:=zak hx8;clear hx8;go_wp2_with fail
     refine (zen 21 _ H2.out rfl HW.out ⟨by omega,by omega⟩ (by omega)).mono ?_;rintro e W3 ⟨rfl,rfl⟩;rw[dw];go_wp2_with fail
     refine (zgp (some ⟨bb,oo,none⟩) 8 c data _ HN.out HC8.out HS2.out).mono ?_;rintro e w3 ⟨A3,n3,c3,rfl,hO,hb⟩;have hks:cKs S data=ansK:=by unfold cKs;rw[if_neg (fun h=>h.2 (HX.out.symm.trans HX8.out))]
     rw[hks] at HP HST HKR;have hcode:=zw4 ansK data;obtain⟨M,hM⟩:∃M,M=resM ansK data:=⟨_,rfl⟩;obtain⟨er,her⟩:∃er,er=errI ansK data:=⟨_,rfl⟩;rw[←hM] at HP HST hO hcode HKR;rw[←her] at HP HST HKR;rw[←hM,←her];have h3:=(H2.out.step hb).row (hO.mono (HBL.out.size));have H4:Hid (CM w G p m S.wk (cliL S m R) (⟨w3.heap.size,95,(msV M A3 n3 c3).toList⟩ :: [⟨g,69,[.int .i64 (1408+S.nd),.bool false,.slice (some ⟨bb,oo,none⟩) 8 c]⟩]) [⟨A3,n3,c3,M.data⟩,⟨R.A,R.n,R.c,S.b⟩] (w3.alloc (.cells (msV M A3 n3 c3) 95))):=zak (h3.new _ _ (by decide));have q4:=zdg w3 95 (msV M A3 n3 c3);have HCO:=zak hcode;clear hks hM her h3 hO hb hcode hxc q2 zg z2 H2 HS2
     have z4:=H4.out.lt;have hz0:=w3.heap.size;unfold msV at q4;obtain⟨dD,dE,dF,dK,dL,dM,eo,ep,eq,et,dG,eu,ev,ew⟩:=zde q4;have ey:=q4.frozen;have HMV:=zak (show msV M A3 n3 c3=msV M A3 n3 c3 from rfl);clear hz0 HMV;by_cases he:er=0
     · have d1:(er == 0)=true:=by simp[he]
       have d2:(er != 0)=false:=by simp[he]
       have HER:=zak he;have hrange0:=zak (HKR.out he);clear he HKR;by_cases hk1:M.kind=1
       · have dk:(M.kind == 1)=true:=by simp[hk1]
         have HK1:=zak hk1;clear hk1;unfold msV at H4 ⊢;go_wp2_with fail
         refine (zer M.code none 0 0 [] _ H4.out rfl rfl HW.out rfl (by omega) (fun _ _=>Sl.nil _ _)).mono ?_;rintro e W5 ⟨rfl,A5,c5,h5⟩;have HF:=zak (zwn (S:=cEnd S M.code []) (R:={ R with A2:=A5,n2:=0,c2:=c5 }) h5 HE.out (fun h=>absurd rfl h) rfl (fun h=>absurd rfl h));clear h5;go_wp2_with fail
         exact HP.out _ _ (by rw[if_pos ⟨HER.out,HK1.out⟩];exact HF.out)
       · have dk:(M.kind == 1)=false:=by simp[hk1]
         have HK1:=zak hk1;have hrange:=hrange0.out hk1;have HFT:=zak (fun W h=>zwv (w0:=w) (G:=G) (p:=p) (m:=m) (rs:=[⟨A3,n3,c3,M.data⟩,⟨R.A,R.n,R.c,S.b⟩]) (ks:=⟨w3.heap.size,95,(msV M A3 n3 c3).toList⟩ :: [⟨g,69,[.int .i64 (1408+S.nd),.bool false,.slice (some ⟨bb,oo,none⟩) 8 c]⟩]) S R M A3 n3 c3 W h HW.out hrange);clear hk1 hrange;unfold msV at H4 HFT ⊢;go_wp2_with fail
         refine (HFT.out _ H4.out).mono ?_;rintro e W5 ⟨rfl,hb5⟩;have H5:=zak (H4.out.step hb5);have q5:Blk W5 w3.heap.size 95 (msV M A3 n3 c3):=H5.out.k0;have zq5:=q5.lt;have z5:=H5.out.lt;clear hb5 HFT H4;clear dD dE dF dK dL dM eo ep eq et dG eu ev ew ey;unfold msV at q5;obtain⟨eA,eB,eC,eD,eE,eF,eG,eH,eI,eJ,dU,dV,dW,dX⟩:=zde q5;have iE:=q5.frozen;cases hft:cFitB S M
         · have HFI:=zak hft;clear hft q4;go_wp2_with fail
           refine (zwq S R 84148225 _ H5.out HW.out HE.out (by omega)).mono ?_;rintro e W6 hR;obtain⟨As,ns,cs,rfl⟩:=hR.shape;have HR:=zak hR;clear hR;go_wp2_with fail
           exact HP.out _ _ (by rw[if_neg (fun h=>HK1.out h.2),if_pos (.inr HFI.out)];exact HR.out)
         · have HFI:=zak hft;clear hft q4;have HSC:=zak (HST.out HER.out HK1.out HFI.out _ R _ _ A3 n3 c3 H5.out HE.out (by simp) HR2.out (by simp));unfold msV at HSC;go_wp2_with fail
           refine HSC.out.mono ?_;rintro e W6 hR;obtain⟨As,ns,cs,rfl⟩:=hR.shape;have HR:=zak hR;clear hR;go_wp2_with fail
           exact HP.out _ _ (by rw[if_neg (fun h=>HK1.out h.2),if_neg (by rintro (h | h);exact h HER.out;rw[HFI.out] at h;cases h)];exact HR.out)
     · have d1:(er == 0)=false:=by simp[he]
       have d2:(er != 0)=true:=by simp[he]
       have HER:=zak he;clear he;unfold msV at H4 ⊢;go_wp2_with fail
       refine (zwq S R 84148225 _ H4.out HW.out HE.out (by omega)).mono ?_;rintro e W6 hR;obtain⟨As,ns,cs,rfl⟩:=hR.shape;have HR:=zak hR;clear hR;go_wp2_with fail
       exact HP.out _ _ (by rw[if_neg (fun h=>HER.out h.1),if_pos (.inl HER.out)];exact HR.out)
   · have dx:((x.toNat:Int) != 128)=true:=by have:x.toNat≠128:=fun h=>hx8 (UInt8.toNat_inj.1 h);simp;omega
     have HX8:=zak hx8;clear hx8;go_wp2_with fail
     refine (zen 21 _ H2.out rfl HW.out ⟨by omega,by omega⟩ (by omega)).mono ?_;rintro e W3 ⟨rfl,rfl⟩;rw[dw];go_wp2_with fail
     refine (zgq (some ⟨bb,oo,none⟩) 8 c data _ HN.out HC8.out HS2.out).mono ?_;rintro e w3 ⟨A3,n3,c3,rfl,hO,hb⟩;have hks:cKs S data=segK:=by unfold cKs;rw[if_pos ⟨H21.out,fun h=>HX8.out (HX.out.trans h)⟩]
     rw[hks] at HP HST HKR;have hcode:=zw4 segK data;obtain⟨M,hM⟩:∃M,M=resM segK data:=⟨_,rfl⟩;obtain⟨er,her⟩:∃er,er=errI segK data:=⟨_,rfl⟩;rw[←hM] at HP HST hO hcode HKR;rw[←her] at HP HST HKR;rw[←hM,←her];have h3:=(H2.out.step hb).row (hO.mono (HBL.out.size));have H4:Hid (CM w G p m S.wk (cliL S m R) (⟨w3.heap.size,95,(msV M A3 n3 c3).toList⟩ :: [⟨g,69,[.int .i64 (1408+S.nd),.bool false,.slice (some ⟨bb,oo,none⟩) 8 c]⟩]) [⟨A3,n3,c3,M.data⟩,⟨R.A,R.n,R.c,S.b⟩] (w3.alloc (.cells (msV M A3 n3 c3) 95))):=zak (h3.new _ _ (by decide));have q4:=zdg w3 95 (msV M A3 n3 c3);have HCO:=zak hcode;clear hks hM her h3 hO hb hcode hxc q2 zg z2 H2 HS2
     have z4:=H4.out.lt;have hz0:=w3.heap.size;unfold msV at q4;obtain⟨dD,dE,dF,dK,dL,dM,eo,ep,eq,et,dG,eu,ev,ew⟩:=zde q4;have ey:=q4.frozen;have HMV:=zak (show msV M A3 n3 c3=msV M A3 n3 c3 from rfl);clear hz0 HMV;by_cases he:er=0
     · have d1:(er == 0)=true:=by simp[he]
       have d2:(er != 0)=false:=by simp[he]
       have HER:=zak he;have hrange0:=zak (HKR.out he);clear he HKR;by_cases hk1:M.kind=1
       · have dk:(M.kind == 1)=true:=by simp[hk1]
         have HK1:=zak hk1;clear hk1;unfold msV at H4 ⊢;go_wp2_with fail
         refine (zer M.code none 0 0 [] _ H4.out rfl rfl HW.out rfl (by omega) (fun _ _=>Sl.nil _ _)).mono ?_;rintro e W5 ⟨rfl,A5,c5,h5⟩;have HF:=zak (zwn (S:=cEnd S M.code []) (R:={ R with A2:=A5,n2:=0,c2:=c5 }) h5 HE.out (fun h=>absurd rfl h) rfl (fun h=>absurd rfl h));clear h5;go_wp2_with fail
         exact HP.out _ _ (by rw[if_pos ⟨HER.out,HK1.out⟩];exact HF.out)
       · have dk:(M.kind == 1)=false:=by simp[hk1]
         have HK1:=zak hk1;have hrange:=hrange0.out hk1;have HFT:=zak (fun W h=>zwv (w0:=w) (G:=G) (p:=p) (m:=m) (rs:=[⟨A3,n3,c3,M.data⟩,⟨R.A,R.n,R.c,S.b⟩]) (ks:=⟨w3.heap.size,95,(msV M A3 n3 c3).toList⟩ :: [⟨g,69,[.int .i64 (1408+S.nd),.bool false,.slice (some ⟨bb,oo,none⟩) 8 c]⟩]) S R M A3 n3 c3 W h HW.out hrange);clear hk1 hrange;unfold msV at H4 HFT ⊢;go_wp2_with fail
         refine (HFT.out _ H4.out).mono ?_;rintro e W5 ⟨rfl,hb5⟩;have H5:=zak (H4.out.step hb5);have q5:Blk W5 w3.heap.size 95 (msV M A3 n3 c3):=H5.out.k0;have zq5:=q5.lt;have z5:=H5.out.lt;clear hb5 HFT H4;clear dD dE dF dK dL dM eo ep eq et dG eu ev ew ey;unfold msV at q5;obtain⟨eA,eB,eC,eD,eE,eF,eG,eH,eI,eJ,dU,dV,dW,dX⟩:=zde q5;have iE:=q5.frozen;cases hft:cFitB S M
         · have HFI:=zak hft;clear hft q4;go_wp2_with fail
           refine (zwq S R 84148225 _ H5.out HW.out HE.out (by omega)).mono ?_;rintro e W6 hR;obtain⟨As,ns,cs,rfl⟩:=hR.shape;have HR:=zak hR;clear hR;go_wp2_with fail
           exact HP.out _ _ (by rw[if_neg (fun h=>HK1.out h.2),if_pos (.inr HFI.out)];exact HR.out)
         · have HFI:=zak hft;clear hft q4;have HSC:=zak (HST.out HER.out HK1.out HFI.out _ R _ _ A3 n3 c3 H5.out HE.out (by simp) HR2.out (by simp));unfold msV at HSC;go_wp2_with fail
           refine HSC.out.mono ?_;rintro e W6 hR;obtain⟨As,ns,cs,rfl⟩:=hR.shape;have HR:=zak hR;clear hR;go_wp2_with fail
           exact HP.out _ _ (by rw[if_neg (fun h=>HK1.out h.2),if_neg (by rintro (h | h);exact h HER.out;rw[HFI.out] at h;cases h)];exact HR.out)
     · have d1:(er == 0)=false:=by simp[he]
       have d2:(er != 0)=true:=by simp[he]
       have HER:=zak he;clear he;unfold msV at H4 ⊢;go_wp2_with fail
       refine (zwq S R 84148225 _ H4.out HW.out HE.out (by omega)).mono ?_;rintro e W6 hR;obtain⟨As,ns,cs,rfl⟩:=hR.shape;have HR:=zak hR;clear hR;go_wp2_with fail
       exact HP.out _ _ (by rw[if_neg (fun h=>HER.out h.1),if_pos (.inl HER.out)];exact HR.out)
 · have dw:decide (S.wk=21)=false:=decide_eq_false h21;have H21:=zak h21;clear h21;go_wp2_with fail
   refine (zen 21 _ H2.out rfl HW.out ⟨by omega,by omega⟩ (by omega)).mono ?_;rintro e W3 ⟨rfl,rfl⟩;rw[dw];go_wp2_with fail
   refine (zgp (some ⟨bb,oo,none⟩) 8 c data _ HN.out HC8.out HS2.out).mono ?_;rintro e w3 ⟨A3,n3,c3,rfl,hO,hb⟩;have hks:cKs S data=ansK:=by unfold cKs;rw[if_neg (fun h=>H21.out h.1)]
   rw[hks] at HP HST HKR;have hcode:=zw4 ansK data;obtain⟨M,hM⟩:∃M,M=resM ansK data:=⟨_,rfl⟩;obtain⟨er,her⟩:∃er,er=errI ansK data:=⟨_,rfl⟩;rw[←hM] at HP HST hO hcode HKR;rw[←her] at HP HST HKR;rw[←hM,←her];have h3:=(H2.out.step hb).row (hO.mono (HBL.out.size));have H4:Hid (CM w G p m S.wk (cliL S m R) (⟨w3.heap.size,95,(msV M A3 n3 c3).toList⟩ :: [⟨g,69,[.int .i64 (1408+S.nd),.bool false,.slice (some ⟨bb,oo,none⟩) 8 c]⟩]) [⟨A3,n3,c3,M.data⟩,⟨R.A,R.n,R.c,S.b⟩] (w3.alloc (.cells (msV M A3 n3 c3) 95))):=zak (h3.new _ _ (by decide));have q4:=zdg w3 95 (msV M A3 n3 c3);have HCO:=zak hcode;clear hks hM her h3 hO hb hcode hxc q2 zg z2 H2 HS2
   have z4:=H4.out.lt;have hz0:=w3.heap.size;unfold msV at q4;obtain⟨dD,dE,dF,dK,dL,dM,eo,ep,eq,et,dG,eu,ev,ew⟩:=zde q4;have ey:=q4.frozen;have HMV:=zak (show msV M A3 n3 c3=msV M A3 n3 c3 from rfl);clear hz0 HMV;by_cases he:er=0
   · have d1:(er == 0)=true:=by simp[he]
     have d2:(er != 0)=false:=by simp[he]
     have HER:=zak he;have hrange0:=zak (HKR.out he);clear he HKR;by_cases hk1:M.kind=1
     · have dk:(M.kind == 1)=true:=by simp[hk1]
       have HK1:=zak hk1;clear hk1;unfold msV at H4 ⊢;go_wp2_with fail
       refine (zer M.code none 0 0 [] _ H4.out rfl rfl HW.out rfl (by omega) (fun _ _=>Sl.nil _ _)).mono ?_;rintro e W5 ⟨rfl,A5,c5,h5⟩;have HF:=zak (zwn (S:=cEnd S M.code []) (R:={ R with A2:=A5,n2:=0,c2:=c5 }) h5 HE.out (fun h=>absurd rfl h) rfl (fun h=>absurd rfl h));clear h5;go_wp2_with fail
       exact HP.out _ _ (by rw[if_pos ⟨HER.out,HK1.out⟩];exact HF.out)
     · have dk:(M.kind == 1)=false:=by simp[hk1]
       have HK1:=zak hk1;have hrange:=hrange0.out hk1;have HFT:=zak (fun W h=>zwv (w0:=w) (G:=G) (p:=p) (m:=m) (rs:=[⟨A3,n3,c3,M.data⟩,⟨R.A,R.n,R.c,S.b⟩]) (ks:=⟨w3.heap.size,95,(msV M A3 n3 c3).toList⟩ :: [⟨g,69,[.int .i64 (1408+S.nd),.bool false,.slice (some ⟨bb,oo,none⟩) 8 c]⟩]) S R M A3 n3 c3 W h HW.out hrange);clear hk1 hrange;unfold msV at H4 HFT ⊢;go_wp2_with fail
       refine (HFT.out _ H4.out).mono ?_;rintro e W5 ⟨rfl,hb5⟩;have H5:=zak (H4.out.step hb5);have q5:Blk W5 w3.heap.size 95 (msV M A3 n3 c3):=H5.out.k0;have zq5:=q5.lt;have z5:=H5.out.lt;clear hb5 HFT H4;clear dD dE dF dK dL dM eo ep eq et dG eu ev ew ey;unfold msV at q5;obtain⟨eA,eB,eC,eD,eE,eF,eG,eH,eI,eJ,dU,dV,dW,dX⟩:=zde q5;have iE:=q5.frozen;cases hft:cFitB S M
       · have HFI:=zak hft;clear hft q4;go_wp2_with fail
         refine (zwq S R 84148225 _ H5.out HW.out HE.out (by omega)).mono ?_;rintro e W6 hR;obtain⟨As,ns,cs,rfl⟩:=hR.shape;have HR:=zak hR;clear hR;go_wp2_with fail
         exact HP.out _ _ (by rw[if_neg (fun h=>HK1.out h.2),if_pos (.inr HFI.out)];exact HR.out)
       · have HFI:=zak hft;clear hft q4;have HSC:=zak (HST.out HER.out HK1.out HFI.out _ R _ _ A3 n3 c3 H5.out HE.out (by simp) HR2.out (by simp));unfold msV at HSC;go_wp2_with fail
         refine HSC.out.mono ?_;rintro e W6 hR;obtain⟨As,ns,cs,rfl⟩:=hR.shape;have HR:=zak hR;clear hR;go_wp2_with fail
         exact HP.out _ _ (by rw[if_neg (fun h=>HK1.out h.2),if_neg (by rintro (h | h);exact h HER.out;rw[HFI.out] at h;cases h)];exact HR.out)
   · have d1:(er == 0)=false:=by simp[he]
     have d2:(er != 0)=true:=by simp[he]
     have HER:=zak he;clear he;unfold msV at H4 ⊢;go_wp2_with fail
     refine (zwq S R 84148225 _ H4.out HW.out HE.out (by omega)).mono ?_;rintro e W6 hR;obtain⟨As,ns,cs,rfl⟩:=hR.shape;have HR:=zak hR;clear hR;go_wp2_with fail
     exact HP.out _ _ (by rw[if_neg (fun h=>HER.out h.1),if_pos (.inl HER.out)];exact HR.out)
end
end
section
open Go.RowKit Go.Maps
theorem zw9 {o:Oper}{a:Act}{K:Act→World→Prop}{Q:Exit→Act→World→Prop}{w:World}(s x:Operand)(ho:o.op= .call { callee:= .builtin .append,args:=#[s,x],argTypes:=#[27,27] })
 (A:Option Addr) (n c:Nat) (l:List UInt8) (hs:a.eval s= .slice A n c) (hown:zdv w 0 A n c l)
 (A2:Option Addr) (m c2:Nat) (l2:List UInt8) (hx:a.eval x= .slice A2 m c2) (hm:m=l2.length) (hr:Sl w A2 (l2.map bv)) (hb:n+m≤140737488355328) (N:Nat) (hN:n+m=N)
 (h:∀A' c' w',zdv w' 0 A' N c' (l ++ l2)→ w.grownBy w' (Value.ownBlock (.slice A n c))→ (A'=A∨A'=some ⟨w.heap.size,0,none⟩)→ K (a.put o.dst (.slice A' N c')) w'):Oper.wp Tryz.prog o a w K Q:=by
 subst hN;obtain⟨i0,hi0,hz0,hz1,hz2⟩:=info_parts zdt;obtain⟨A',c',w',hr',h2,h3,h4⟩:=zcx (P:=Tryz.prog) w 0 27 o.type 5 i0 _ 1 1 Tryz.underlying27 hi0 hz0 hz1 hz2 rfl (by omega) A n c _ hown.own A2 m c2 (l2.map bv) (by simp[hm]) hr (zc1 _) (by unfold maxLen;omega) (by omega) (Nat.zero_le _);unfold Oper.wp execOp;simp only[ho,resolve,invoke,builtin,Sem.run_bind,Sem.run_pure,Result.andThen_ok,List.map_toArray,List.map_cons,List.map_nil,hs,hx,hr'];exact h A' c' w' ⟨by rw[hown.hn,hm];simp,by rw[List.map_append];exact h2⟩ h3 h4
theorem zxa {w:World}{B e s n c g:Nat}{A:Option Addr}{xs:List Value}(h:Own w B e s A n c xs)(hg:Value.ownBlock (.slice A n c)=some g):A=some ⟨g,0,none⟩:=by
 rcases h.shape with ⟨rfl,_⟩ | ⟨q,rfl,_⟩
 · simp[Value.ownBlock] at hg
 · simp[Value.ownBlock] at hg;subst hg
   rfl
section
variable {w0 W W':World} {G:Nat→Prop} {p m:Nat} {wk:Int} {cs:List Value} {ks:List KB} {rs:List RB} {A A':Option Addr} {n c N c':Nat} {l l':List UInt8}
theorem CM.app (h:CM w0 G p m wk cs ks (⟨A,n,c,l⟩ :: rs) W)(hO:zdv W' 0 A' N c' l')(hg:W.grownBy W' (Value.ownBlock (.slice A n c)))(hA:A'=A∨A'=some ⟨W.heap.size,0,none⟩):CM w0 G p m wk cs ks [⟨A',N,c',l'⟩] W':=by
 have hr:=h.rows ⟨A,n,c,l⟩ (by simp);have ho:zd0 (fun q=>A=some ⟨q,0,none⟩) W W':=zd0.of_grown hg (fun g e=>zxa hr.1.own e);refine⟨(ho.block p h.lt (fun e=>zek hr.1 h.blk zel p e rfl)).trans h.blk,h.wm.keep (ho.block m h.wm.lt (fun e=>h.wm.row_ne hr.1.own m e rfl)),h.only.trans ho ?_,fun x hx=>⟨(h.keep x hx).1,(h.keep x hx).2.1,(ho.block x.g (h.keep x hx).2.2.lt (fun e=>zek hr.1 (h.keep x hx).2.2 (h.keep x hx).2.1 x.g e rfl)).trans (h.keep x hx).2.2⟩,?_⟩
 · intro i hi e;rcases hr.2 i e with h1 | h1
   · exact .inr (.inr h1)
   · omega
 · intro r hr2;simp at hr2;subst hr2;refine⟨hO,fun g hg2=>?_⟩;rcases hA with hA | hA
   · exact hr.2 g (hA ▸ hg2)
   · rw[hA] at hg2;injection hg2 with hg2
     injection hg2 with hg2
     exact .inr (by rw[←hg2];exact h.size)
end
section
variable {w0:World} {G:Nat→Prop} {p m:Nat} {ks:List KB}
theorem zxb (S:CliS)(R:CR)(M:Ms)(A:Option Addr)(n c:Nat)(W:World)(rs:List RB)(h:CM w0 G p m S.wk (cliL S m R) ks rs W)(hw:0≤S.wk∧S.wk≤21)(hE:EOk S R)(hb:⟨R.A,R.n,R.c,S.b⟩ ∈ rs)(hn2:R.n2=S.data.length)(hd:S.data= [])(hl:S.b.length≤100000)(hM:⟨A,n,c,M.data⟩ ∈ rs)(hMl:M.data.length≤7) :
 Calls Tryz.prog 191 #[.pointer (some ⟨p,0,none⟩),.agg (msV M A n c)] W (zw3 w0 G p m (cPcS S M) (cPcL S M)):=by
 have hnm:n=M.data.length:=(h.rows _ hM).1.hn;have hnr:R.n=S.b.length:=(h.rows _ hb).1.hn;have H1:Hid (CM w0 G p m S.wk (cliL S m R) (⟨W.heap.size,95,(msV M A n c).toList⟩ :: ks) (⟨R.A,R.n,R.c,S.b⟩ :: ⟨A,n,c,M.data⟩ :: []) (W.alloc (.cells (msV M A n c) 95))):=zak (((h.new _ _ (by decide)).subr (by
  intro r hr;simp at hr;rcases hr with rfl | rfl
  · exact hb
  · exact hM)))
 have HE:=zak hE;have HW:=zak hw;have HN2:=zak hn2;have HD:=zak hd;obtain⟨P,hP⟩:∃P,P=zw3 w0 G p m (cPcS S M) (cPcL S M):=⟨_,rfl⟩;have HP:=zak hP;rw[←hP];have hbd:R.n+n≤200000:=by omega
 have HNM:=zak hnm;have HNR:=zak hnr;clear h hE hw hn2 hd hb hM hP hnm hnr hl hMl;unfold msV at H1 ⊢;go_enter Tryz.func191,Tryz.ntmps191
 go_upto_region 1 with fail
 refine zed (P:=fun W1=>CM w0 G p m S.wk (cliL S m R) (⟨W.heap.size,95,(msV M A n c).toList⟩ :: ks) (⟨R.A,R.n,R.c,S.b⟩ :: ⟨A,n,c,M.data⟩ :: []) W1) (by exact H1.out) (fun W1 h1=>?_);obtain⟨g,hg⟩:∃g,g=W.heap.size:=⟨_,rfl⟩;rw[←hg] at h1 ⊢;clear H1 hg;have H1:=zak h1;have z1:=h1.lt;have q:Blk W1 g 95 (msV M A n c):=h1.k0;have zg:=q.lt;have q9:W1.cell? ⟨g,9,none⟩=some (.slice A n c):=q.cell 9 rfl;have c17:W1.cell? ⟨p,17,none⟩=some (.slice R.A R.n R.c):=h1.blk.cell 17 rfl;have HMS:=zak (h1.drew.rows ⟨A,n,c,M.data⟩ (by simp)).1.sl;clear h1 q;refine zaj (fun w'=>w'.cell? ⟨g,9,none⟩=some (.slice A n c)∧ w'.cell? ⟨p,17,none⟩=some (.slice R.A R.n R.c)) [0,1,2,3,4,5,6,7,8,9] (by kernel_rfl) ?hS1 (fun hHeld=>?rest1)
 case hS1=>((try dsimp only);exact⟨q9,c17⟩)
 case' rest1=>skip
 refine tkT 0 ?_;try simp only[PqL,Act.put]
 refine tkT 1 ?_;try simp only[PqL,Act.put]
 refine tkT 2 ?_;try simp only[PqL,Act.put]
 refine tkT 3 ?_;try simp only[PqL,Act.put]
 refine tkT 4 ?_;try simp only[PqL,Act.put]
 refine tkT 5 ?_;try simp only[PqL,Act.put]
 refine tkT 6 ?_;try simp only[PqL,Act.put]
 refine zag (i:=7) (o:=_) rfl (by kernel_rfl) (fun K hK=>?_);rw[if_pos (show Region.wanted _ _=true by kernel_rfl)];refine zw9 _ _ rfl R.A R.n R.c S.b rfl H1.out.drew.r0 A n c M.data rfl HNM.out HMS.out (by omega) (R.n+n) rfl ?_;intro A6 c6 w6 h3 h4 h5;have H6:=zak (H1.out.drew.app h3 h4 h5);have q6:Blk w6 g 95 (msV M A n c):=H6.out.k0;have Q6:=zak q6;have c17b:w6.cell? ⟨p,17,none⟩=some (.slice R.A R.n R.c):=H6.out.blk.cell 17 rfl;have f17:=H6.out.blk.frozen 17;have z6:=H6.out.lt;clear h3 h4 h5 q6;refine hK.out _ _ ?hS10 (fun hHeld=>?rest10)
 case hS10=>((try dsimp only);(exact⟨Q6.out.cell 9 rfl,c17b⟩))
 case' rest10=>(clear hK K;try simp only[PqL,Act.put])
 refine tkT 8 ?_;try simp only[PqL,Act.put]
 refine tkT 9 ?_;try simp only[PqL,Act.put]
 refine zah (i:=10) (o:=_) rfl (by kernel_rfl) (by kernel_rfl) (fun K hK=>?_)
 go_simp
 refine hK.out _ _ ?rest14
 case' rest14=>(clear hK K;try simp only[PqL,Act.put])
 refine zai (by kernel_rfl) ?_ _
 repeat (clear hHeld)
 have H7:Hid (CM w0 G p m S.wk (cliL S m { R with A:=A6,n:=R.n+n,c:=c6 }) (⟨g,95,(msV M A n c).toList⟩ :: ks) [⟨A6,R.n+n,c6,S.b ++ M.data⟩] (w6.setCell ⟨p,17,none⟩ (.slice A6 (R.n+n) c6))):=zak (H6.out.set 17 _);clear H6 Q6 c17b f17 z6 c17 q9 z1 zg H1 HMS;go_upto_region 2 with fail
 refine zed (P:=CM w0 G p m S.wk (cliL S m { R with A:=A6,n:=R.n+n,c:=c6 }) (⟨g,95,(msV M A n c).toList⟩ :: ks) [⟨A6,R.n+n,c6,S.b ++ M.data⟩]) H7.out (fun W7 h7=>?_);clear H7;have H7:Hid (CM w0 G p m S.wk (cliL (cPcA S M) m { R with A:=A6,n:=R.n+n,c:=c6 }) (⟨g,95,(msV M A n c).toList⟩ :: ks) [⟨A6,R.n+n,c6,S.b ++ M.data⟩] (W7.setCell ⟨p,20,none⟩ (.bool (!S.tg)))):=zak (h7.set 20 _);have z7:=h7.lt;have c20:W7.cell? ⟨p,20,none⟩=some (.bool S.tg):=h7.blk.cell 20 rfl;have f20:=h7.blk.frozen 20;have hne:g≠p:=(h7.keep ⟨g,95,(msV M A n c).toList⟩ (by simp)).1;clear h7;go_upto_region 3 with fail
 refine zed (P:=CM w0 G p m S.wk (cliL (cPcA S M) m { R with A:=A6,n:=R.n+n,c:=c6 }) (⟨g,95,(msV M A n c).toList⟩ :: ks) [⟨A6,R.n+n,c6,S.b ++ M.data⟩]) H7.out (fun W8 h8=>?_);clear H7 z7 c20 f20;have H8:=zak h8;have z8:=h8.lt;have q:Blk W8 g 95 (msV M A n c):=h8.k0;have zg:=q.lt;have HEA:Hid (EOk (cPcA S M) { R with A:=A6,n:=R.n+n,c:=c6 }):=zak HE.out;have HNB:Hid (R.n+n=(S.b ++ M.data).length):=zak (by rw[List.length_append,←HNR.out,←HNM.out]);have c17:W8.cell? ⟨p,17,none⟩=some (.slice A6 (R.n+n) c6):=h8.blk.cell 17 rfl;cases hla:M.la
 · have q4:W8.cell? ⟨g,4,none⟩=some (.bool false):=by rw[←hla];exact q.cell 4 rfl
   have HP2:Hid (P=zw3 w0 G p m (cMoreS (cPcA S M)) (cMoreL (cPcA S M))):=zak (by rw[HP.out];unfold cPcS cPcL;rw[if_pos hla,if_pos hla]);clear h8 q hla HP;go_wp2_with fail
   refine (zws (cPcA S M) _ _ H8.out HW.out HEA.out (by simp[cPcA]) HN2.out HD.out).mono ?_;rintro e W9 hR;obtain⟨As,ns,cs,rfl⟩:=hR.shape;have HR:=zak hR;clear hR;go_wp2_with fail
   rw[HP2.out];exact HR.out
 · have q4:W8.cell? ⟨g,4,none⟩=some (.bool true):=by rw[←hla];exact q.cell 4 rfl
   have HP2:Hid (P=zw3 w0 G p m (if cSzB S ((S.b ++ M.data).length:Int)=false then cEnd (cPcA S M) 101122064 [] else cEnd (cPcA S M) 0 (S.b ++ M.data)) (if cSzB S ((S.b ++ M.data).length:Int)=false then cFailL S 101122064 else [])):=zak (by
    have hnl: ¬M.la=false:=by rw[hla];decide
    rw[HP.out];unfold cPcS cPcL;rw[if_neg hnl,if_neg hnl])
   clear h8 q hla HP;go_wp2_with fail
   refine (zwt (cPcA S M) _ ((R.n+n:Nat):Int) _ H8.out HEA.out).mono ?_;rintro e W9 ⟨rfl,hw9⟩;subst hw9;have hsz:cSzB (cPcA S M) ((R.n+n:Nat):Int)=cSzB S ((S.b ++ M.data).length:Int):=by rw[HNB.out];rfl
   rw[hsz];cases hs:cSzB S ((S.b ++ M.data).length:Int)
   · have HSZ:=zak hs;clear hs hsz;go_wp2_with fail
     refine (zwq (cPcA S M) _ 101122064 _ H8.out HW.out HEA.out (by omega)).mono ?_;rintro e W10 hR;obtain⟨As,ns,cs,rfl⟩:=hR.shape;have HR:=zak hR;clear hR;go_wp2_with fail
     rw[HP2.out,if_pos HSZ.out,if_pos HSZ.out];exact HR.out
   · have HSZ:=zak hs;clear hs hsz;go_wp2_with fail
     refine (zer 0 A6 (R.n+n) c6 (S.b ++ M.data) _ H8.out rfl rfl HW.out HNB.out (by omega) (fun W' hc=>hc.r0.sl)).mono ?_;rintro e W10 ⟨rfl,A9,c9,h9⟩;have HF:=zak (zwn (S:=cEnd (cPcA S M) 0 (S.b ++ M.data)) (R:={ R with A:=A6,n:=R.n+n,c:=c6,A2:=A9,n2:=R.n+n,c2:=c9 }) h9 HE.out (fun h=>absurd rfl h) HNB.out (fun _=>by simp[cEnd]));clear h9;go_wp2_with fail
     rw[HP2.out,if_neg (by rw[HSZ.out];decide),if_neg (by rw[HSZ.out];decide)];exact HF.out
end
end
end Go.Proofs.YtkkpjbjmhaecjaaGreat
