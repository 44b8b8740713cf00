/- None -/
import Derived.Test.YthdbckbpldlkeaaQ39
import Derived.Test.YthdbckbpldlkeaaQ47
namespace Go.Proofs.Ythdbckbpldlkeaa
set_option linter.unusedVariables false
set_option linter.unusedSimpArgs false
set_option linter.unnecessarySimpa false
section
open Go.RowKit Go.Maps
set_option maxRecDepth 100000
set_option maxHeartbeats 8000000
section
variable {w0 W W':World} {G:Nat→Prop} {p:Nat} {ks:List KB} {rs:List RB} {cs:List Value}
theorem RM.away {g:Nat} (h:RM w0 G p cs ks rs W) (ho:zcd (fun q=>q=g) W W') (hg: ¬ g < w0.heap.size) (hp:g≠p) (hk:∀ x ∈ ks,x.g≠g) (hr:∀ r ∈ rs,∀ ad,r.A=some ad→ad.block≠g):RM w0 G p cs ks rs W':=by
 refine⟨(ho.block p h.lt (fun e=>hp e.symm)).trans h.blk,h.lt0,⟨ho.os.trans h.only.os,ho.tape.trans h.only.tape,ho.output.trans h.only.output,Nat.le_trans h.only.size ho.size,fun i hi hF=>(ho.block i (Nat.lt_of_lt_of_le hi h.only.size) (fun e=>hg (by rw[← e];exact hi))).trans (h.only.block i hi hF)⟩,fun x hx=>⟨(h.keep x hx).1,(ho.block x.g (h.keep x hx).2.lt (hk x hx)).trans (h.keep x hx).2⟩,fun r hr'=>?_⟩
 obtain⟨h1,h2,h3,h4⟩:= h.rows r hr'
 exact⟨h1,h2,zle h3 (fun ad e=>ho.block _ (h4 ad e).2.1 (hr r hr' ad e)),fun ad e=>⟨(h4 ad e).1,Nat.lt_of_lt_of_le (h4 ad e).2.1 ho.size,(h4 ad e).2.2⟩⟩
theorem zn0 (T:RCli) (f:Frm) (A:Option Addr) (n c:Nat) (w:World) (hS:RCV w G p T) (hnd:1≤T.nd∧T.nd≤127) (hn:n=f.data.length) (hno:T.wk=0∨f.id≠1408+T.nd∨f.re=true∨f.data.length≠8) :
 Calls Try.prog 17 #[.pointer (some ⟨p,0,none⟩),.agg #[.int .i64 f.id,.bool f.re,.slice A n c]] w (zli w G p (rRecvS T f) (rRecvL T f)):= by
 obtain⟨R,hC⟩:= hS.rm
 have H1:Hid (RM w G p (rclL T R) [⟨w.heap.size,34,[.int .i64 f.id,.bool f.re,.slice A n c]⟩] [⟨R.A,R.n,R.c,T.b⟩,⟨R.A2,R.n2,R.c2,T.data⟩] (w.alloc (.cells #[.int .i64 f.id,.bool f.re,.slice A n c] 34))):= zak (hC.new _ _)
 have HNO:=zak hno
 have HN:=zak hn
 obtain⟨hnd1,hnd2⟩:= hnd
 obtain⟨P,hP⟩:∃ P,P=zli w G p (rRecvS T f) (rRecvL T f):= ⟨_,rfl⟩
 have HP:Hid (∀ ks W',RM w G p (rclL T R) ks [⟨R.A,R.n,R.c,T.b⟩,⟨R.A2,R.n2,R.c2,T.data⟩] W'→P (.returned (.slice none 0 0)) W'):= zak (fun ks W' hb=>by
  rw[hP]
  unfold rRecvS rRecvL
  rw[if_pos hno,if_pos hno]
  exact zll hb (by simp) (by simp))
 rw[← hP]
 clear hS hC hno hn hP
 obtain⟨id,re,data⟩:= f
 dsimp only at *
 go_enter Try.func17,Try.ntmps17
 go_upto_region 1 with fail
 refine zcn (P:=fun W1=>RM w G p (rclL T R) [⟨w.heap.size,34,[.int .i64 id,.bool re,.slice A n c]⟩] [⟨R.A,R.n,R.c,T.b⟩,⟨R.A2,R.n2,R.c2,T.data⟩] W1) H1.out (fun W1 h1=>?_)
 clear H1
 obtain⟨g,hg⟩:∃ g,g=w.heap.size:=⟨_,rfl⟩
 rw[← hg] at h1 ⊢
 clear hg
 have H1:=zak h1
 have z1:=h1.lt
 have q:Blk W1 g 34 #[.int .i64 id,.bool re,.slice A n c]:= h1.k0
 have zg:=q.lt
 have q0:W1.cell? ⟨g,0,none⟩=some (.int .i64 id):= q.cell 0 rfl
 have q1:W1.cell? ⟨g,1,none⟩=some (.bool re):= q.cell 1 rfl
 have q2:W1.cell? ⟨g,2,none⟩=some (.slice A n c):= q.cell 2 rfl
 have b0:W1.cell? ⟨p,0,none⟩=some (.int .i64 T.nd):= h1.blk.cell 0 rfl
 have b1:W1.cell? ⟨p,1,none⟩=some (.int .i64 T.wk):= h1.blk.cell 1 rfl
 clear q h1
 by_cases hwk:T.wk=0
 · rw[hwk] at b1
   clear hwk
   go_quiet (fail)
   go_wp2_with fail
   exact HP.out _ _ (H1.out.step bl)
 have d1:(T.wk == 0)=false:=by simp[hwk]
 by_cases hid:id=1408+T.nd
 · have d2:(id != 1408+T.nd)=false:=by simp[hid]
   cases re
   · have h8:(n:Int)≠ 8:=by
      have:=HNO.out
      have:=HN.out
      simp[hwk,hid] at *
      omega
     have d3:((n:Int) != 8)=true:=by simp;omega
     clear hwk hid h8
     go_quiet (fail)
     go_wp2_with fail
     exact HP.out _ _ (H1.out.step bl)
   · clear hwk hid
     go_quiet (fail)
     go_wp2_with fail
     exact HP.out _ _ (H1.out.step bl)
 · have d2:(id != 1408+T.nd)=true:=by simp[hid]
   clear hwk hid
   go_quiet (fail)
   go_wp2_with fail
   exact HP.out _ _ (H1.out.step bl)
theorem zn1 (T:RCli) (f:Frm) (A:Option Addr) (n c k:Nat) (w:World) (hS:RCV w G p T) (hnd:1≤T.nd∧T.nd≤127) (hBn:zip T k) (hk60:k≤60) (hn:n=f.data.length) (hc:n≤c) (hs:Sl w A (f.data.map bv)) (h0:T.wk≠0) (hid:f.id=1408+T.nd) (hre:f.re=false) (h8:f.data.length=8)
 (hst:errI (rKs T f.data) f.data=0→(resM (rKs T f.data) f.data).kind≠1→MsB (resM (rKs T f.data) f.data)) :
 Calls Try.prog 17 #[.pointer (some ⟨p,0,none⟩),.agg #[.int .i64 f.id,.bool f.re,.slice A n c]] w (zli w G p (rRecvS T f) (rRecvL T f)):= by
 obtain⟨R,hC⟩:= hS.rm
 have H1:Hid (RM w G p (rclL T R) [⟨w.heap.size,34,[.int .i64 f.id,.bool f.re,.slice A n c]⟩] [⟨R.A,R.n,R.c,T.b⟩,⟨R.A2,R.n2,R.c2,T.data⟩] (w.alloc (.cells #[.int .i64 f.id,.bool f.re,.slice A n c] 34))):= zak (hC.new _ _)
 have HBL:=zak (zbp (Below.refl w.heap.size w) (.cells #[.int .i64 f.id,.bool f.re,.slice A n c] 34))
 have HS:=zak hs
 have HBN:Hid (T.b.length≤100000∧(0≤T.ha∧T.ha≤90000)∧ (0≤T.nx∧T.nx≤1001)):= zak (by
  obtain⟨a1,a2,a3,a4,a5⟩:= hBn
  omega)
 have HND:=zak hnd
 obtain⟨hnd1,hnd2⟩:= hnd
 obtain⟨id,re,data⟩:= f
 dsimp only at *
 subst hid
 subst hre
 have HN:=zak hn
 have H8:=zak h8
 obtain⟨P,hP⟩:∃ P,P=zli w G p (rRecvS T ⟨1408+T.nd,false,data⟩) (rRecvL T ⟨1408+T.nd,false,data⟩):= ⟨_,rfl⟩
 have hno: ¬ (T.wk=0∨(1408+T.nd:Int)≠ 1408+T.nd∨false=true∨data.length≠8):= by simp[h0,h8]
 have HP:Hid (∀ e W',(if errI (rKs T data) data=0∧(resM (rKs T data) data).kind=1 then zli w G p (rEnds T (resM (rKs T data) data).code []) [] e W' else if errI (rKs T data) data≠0∨rFitB T (resM (rKs T data) data)=false then zli w G p (rEnds T 84148225 []) (rGivL T 84148225) e W' else zli w G p (rGoS T (resM (rKs T data) data)) (rGoL T (resM (rKs T data) data)) e W')→ P e W'):= zak (fun e W' hh=>by
  rw[hP]
  unfold rRecvS rRecvL
  dsimp only
  rw[if_neg hno,if_neg hno]
  split at hh
  · rename_i hc1
    rw[if_pos hc1,if_pos hc1]
    exact hh
  · rename_i hc1
    rw[if_neg hc1,if_neg hc1]
    split at hh
    · rename_i hc2
      rw[if_pos hc2,if_pos hc2]
      exact hh
    · rename_i hc2
      rw[if_neg hc2,if_neg hc2]
      exact hh)
 rw[← hP]
 have HST:=zak hst
 have d0:(T.wk == 0)=false:=by simp[h0]
 have h8n:n=8:=by omega
 subst h8n
 have HC8:=zak hc
 obtain⟨x,hx⟩:∃ x,x=data.headD 0:=⟨_,rfl⟩
 have hcx:(data.map bv)[0]? =some (.int .u8 (x.toNat:Nat)):= by
  rw[hx]
  rcases data with _ | ⟨y,data⟩
  · simp at h8
  · rfl
 obtain⟨bb,oo,rfl,hcell⟩:= hs.at_ hcx
 rw[Nat.add_zero] at hcell
 have HX:=zak hx
 have HCL:=zak hcell
 clear hS hC hst hn hP hs hno h0 h8 hcx hx hcell hBn
 go_enter Try.func17,Try.ntmps17
 go_upto_region 1 with fail
 refine zcn (P:=fun W1=>RM w G p (rclL T R) [⟨w.heap.size,34,[.int .i64 (1408+T.nd),.bool false,.slice (some ⟨bb,oo,none⟩) 8 c]⟩] [⟨R.A,R.n,R.c,T.b⟩,⟨R.A2,R.n2,R.c2,T.data⟩] W1∧Below w.heap.size w W1) ⟨H1.out,HBL.out⟩ (fun W1 h1=>?_)
 clear H1 HBL
 obtain⟨h1,hbl⟩:= h1
 obtain⟨g,hg⟩:∃ g,g=w.heap.size:=⟨_,rfl⟩
 have HG:=zak hg
 rw[← hg] at h1 ⊢
 clear hg
 have HBL:=zak hbl
 have H1:=zak h1
 have z1:=h1.lt
 have q:Blk W1 g 34 #[.int .i64 (1408+T.nd),.bool false,.slice (some ⟨bb,oo,none⟩) 8 c]:= h1.k0
 have zg:=q.lt
 have q0:W1.cell? ⟨g,0,none⟩=some (.int .i64 (1408+T.nd)):= q.cell 0 rfl
 have q1:W1.cell? ⟨g,1,none⟩=some (.bool false):= q.cell 1 rfl
 have q2:W1.cell? ⟨g,2,none⟩=some (.slice (some ⟨bb,oo,none⟩) 8 c):= q.cell 2 rfl
 have b0:W1.cell? ⟨p,0,none⟩=some (.int .i64 T.nd):= h1.blk.cell 0 rfl
 have b1:W1.cell? ⟨p,1,none⟩=some (.int .i64 T.wk):= h1.blk.cell 1 rfl
 clear q h1
 go_quiet (fail)
 go_upto_region 3 with fail
 refine zcn (P:=fun W2=>RM w G p (rclL T R) [⟨g,34,[.int .i64 (1408+T.nd),.bool false,.slice (some ⟨bb,oo,none⟩) 8 c]⟩] [⟨R.A,R.n,R.c,T.b⟩,⟨R.A2,R.n2,R.c2,T.data⟩] W2∧Below w.heap.size w W2) ⟨H1.out.step (zb2 (Below.refl _ _) _),zbo (zb2 (Below.refl _ _) _) hbl⟩ (fun W2 hW2=>?_)
 clear H1 HBL q0 q1 q2 b0 b1 z1 zg hbl
 obtain⟨h2,hbl⟩:= hW2
 have H2:=zak h2
 have HBL:=zak hbl
 have q:Blk W2 g 34 #[.int .i64 (1408+T.nd),.bool false,.slice (some ⟨bb,oo,none⟩) 8 c]:= h2.k0
 have z2:=h2.lt
 have zg:=q.lt
 have q2:W2.cell? ⟨g,2,none⟩=some (.slice (some ⟨bb,oo,none⟩) 8 c):= q.cell 2 rfl
 have HS2:=zak (HS.out.below hbl)
 clear q h2 hbl
 go_wp2_with fail
 refine (zny (some ⟨bb,oo,none⟩) 8 c data _ HN.out HC8.out HS2.out).mono ?_
 rintro e w3 ⟨A3,n3,c3,rfl,hO,hb⟩
 have hzw:=HBL.out.size
 have h3:=(H2.out.step hb).row (hO.mono hzw)
 have HB3:=zak (HBL.out.trans (hb.mono hzw))
 have z3:=h3.lt
 have zg3:g < w3.heap.size:=Nat.lt_of_lt_of_le zg hb.size
 have b1:w3.cell? ⟨p,1,none⟩=some (.int .i64 T.wk):= h3.blk.cell 1 rfl
 have q2:w3.cell? ⟨g,2,none⟩=some (.slice (some ⟨bb,oo,none⟩) 8 c):= Blk.cell (h3.k0:Blk w3 g 34 #[.int .i64 (1408+T.nd),.bool false,.slice (some ⟨bb,oo,none⟩) 8 c]) 2 rfl
 have hxc:w3.cell? ⟨bb,oo,none⟩=some (.int .u8 (x.toNat:Nat)):= (HB3.out.cell (zal HCL.out)).trans HCL.out
 have zbb:=zal hxc
 simp only at zbb
 have H3:=zak h3
 have HS3:=zak (HS2.out.below hb)
 clear h3 hO hb z2 zg hzw
 by_cases h21:T.wk=21
 · have dw:(T.wk == 21)=true:=by simp[h21]
   have H21:=zak h21
   clear h21
   by_cases hx8:x=128
   · have dx:((x.toNat:Int) != 128)=false:=by rw[hx8];rfl
     have HX8:=zak hx8
     clear hx8
     have hks:rKs T data=ansK:=by unfold rKs;rw[if_neg (fun h=>h.2 (HX.out.symm.trans HX8.out))]
     rw[hks] at HP HST
     obtain⟨M,hM⟩:∃ M,M=resM ansK data:=⟨_,rfl⟩
     obtain⟨er,her⟩:∃ er,er=errI ansK data:=⟨_,rfl⟩
     rw[← hM] at HP HST H3
     rw[← her] at HP HST
     rw[← hM,← her]
     have H4:Hid (RM w G p (rclL T R) (⟨w3.heap.size,72,(msV M A3 n3 c3).toList⟩ :: [⟨g,34,[.int .i64 (1408+T.nd),.bool false,.slice (some ⟨bb,oo,none⟩) 8 c]⟩]) [⟨A3,n3,c3,M.data⟩,⟨R.A,R.n,R.c,T.b⟩,⟨R.A2,R.n2,R.c2,T.data⟩] (w3.alloc (.cells (msV M A3 n3 c3) 72))):= zak (H3.out.new _ _)
     have q4:=zbu w3 72 (msV M A3 n3 c3)
     clear hks hM her
     have z4:=H4.out.lt
     unfold msV at q4 ⊢
     obtain⟨q4_c0,q4_c1,q4_c2,q4_c3,q4_c4,q4_c5,q4_c6,q4_c7,q4_c8,q4_c9,q4_c10,q4_c11,q4_c12,q4_c13⟩:= zbs q4
     have q4_f:=q4.frozen
     go_upto_region 6 with fail
     refine zcn (P:=fun Wx=>RM w G p (rclL T R) (⟨w3.heap.size,72,(msV M A3 n3 c3).toList⟩ :: [⟨g,34,[.int .i64 (1408+T.nd),.bool false,.slice (some ⟨bb,oo,none⟩) 8 c]⟩]) [⟨A3,n3,c3,M.data⟩,⟨R.A,R.n,R.c,T.b⟩,⟨R.A2,R.n2,R.c2,T.data⟩] Wx) (by exact H4.out) (fun Wx hx4=>?_)
     clear q4_c0 q4_c1 q4_c2 q4_c3 q4_c4 q4_c5 q4_c6 q4_c7 q4_c8 q4_c9 q4_c10 q4_c11 q4_c12 q4_c13 q4_f
     clear q4 z4 H4 b1 q2 hxc zbb z3
     obtain⟨g4,hg4⟩:∃ g4,g4=w3.heap.size:=⟨_,rfl⟩
     rw[← hg4] at hx4 ⊢
     clear hg4 zg3 H3 HS3 HB3
     have H4:=zak hx4
     have z4:=hx4.lt
     have q4:Blk Wx g4 72 (msV M A3 n3 c3):= hx4.k0
     have zq4:=q4.lt
     clear hx4
     unfold msV at q4
     obtain⟨q4_c0,q4_c1,q4_c2,q4_c3,q4_c4,q4_c5,q4_c6,q4_c7,q4_c8,q4_c9,q4_c10,q4_c11,q4_c12,q4_c13⟩:= zbs q4
     have q4_f:=q4.frozen
     by_cases he:er=0
     · have d1:(er == 0)=true:=by simp[he]
       have d2:(er != 0)=false:=by simp[he]
       have HER:=zak he
       have hms0:=zak (HST.out he)
       clear he HST
       by_cases hk1:M.kind=1
       · have dk:(M.kind == 1)=true:=by simp[hk1]
         have HK1:=zak hk1
         clear hk1
         go_wp2_with fail
         refine (zlq T R M.code none 0 0 [] _ H4.out.rnil (by simp) (by simp)).mono ?_
         rintro e W5 ⟨rfl,A5,c5,h5⟩
         have HF:=zak (zll (T:=rEnds T M.code []) (R:={ R with A2:=A5,n2:=0,c2:=c5 }) h5 (by simp[rEnds]) (by simp[rEnds]))
         clear h5
         go_wp2_with fail
         exact HP.out _ _ (by rw[if_pos ⟨HER.out,HK1.out⟩];exact HF.out)
       · have dk:(M.kind == 1)=false:=by simp[hk1]
         have HK1:=zak hk1
         have HMS:=zak (hms0.out hk1)
         have HFT:=zak (fun W h=>znd (w0:=w) (G:=G) (p:=p) (rs:= [⟨A3,n3,c3,M.data⟩,⟨R.A,R.n,R.c,T.b⟩,⟨R.A2,R.n2,R.c2,T.data⟩]) (ks:=⟨g4,72,(msV M A3 n3 c3).toList⟩ :: [⟨g,34,[.int .i64 (1408+T.nd),.bool false,.slice (some ⟨bb,oo,none⟩) 8 c]⟩]) T R M A3 n3 c3 W h HMS.out.k)
         have HGO:=zak (fun W h=>znc (w0:=w) (G:=G) (p:=p) (rs:= [⟨A3,n3,c3,M.data⟩,⟨R.A,R.n,R.c,T.b⟩,⟨R.A2,R.n2,R.c2,T.data⟩]) (ks:=⟨g4,72,(msV M A3 n3 c3).toList⟩ :: [⟨g,34,[.int .i64 (1408+T.nd),.bool false,.slice (some ⟨bb,oo,none⟩) 8 c]⟩]) T R M A3 n3 c3 W h HND.out (by simp) (by simp) (by simp) HBN.out.1 HMS.out HBN.out.2.1 HBN.out.2.2)
         clear hk1 hms0
         unfold msV at H4 HFT HGO
         go_wp2_with fail
         refine (HFT.out _ H4.out).mono ?_
         rintro e W5 ⟨rfl,hb5⟩
         have H5:=zak (H4.out.step hb5)
         have q5:Blk W5 g4 72 (msV M A3 n3 c3):= H5.out.k0
         have zq5:=q5.lt
         have z5:=H5.out.lt
         clear hb5 HFT H4
         clear q4_c0 q4_c1 q4_c2 q4_c3 q4_c4 q4_c5 q4_c6 q4_c7 q4_c8 q4_c9 q4_c10 q4_c11 q4_c12 q4_c13 q4_f
         unfold msV at q5
         obtain⟨q5_c0,q5_c1,q5_c2,q5_c3,q5_c4,q5_c5,q5_c6,q5_c7,q5_c8,q5_c9,q5_c10,q5_c11,q5_c12,q5_c13⟩:= zbs q5
         have q5_f:=q5.frozen
         cases hft:rFitB T M
         · have HFI:=zak hft
           clear hft q4
           go_wp2_with fail
           refine (zlr T R 84148225 _ H5.out HND.out (by simp) (by omega)).mono ?_
           rintro e W6 hR
           obtain⟨As,ns,cs,rfl⟩:= hR.shape
           have HR:=zak hR
           clear hR
           go_wp2_with fail
           exact HP.out _ _ (by rw[if_neg (fun h=>HK1.out h.2),if_pos (.inr HFI.out)];exact HR.out)
         · have HFI:=zak hft
           clear hft q4
           go_wp2_with fail
           refine (HGO.out _ H5.out).mono ?_
           rintro e W6 hR
           obtain⟨As,ns,cs,rfl⟩:= hR.shape
           have HR:=zak hR
           clear hR
           go_wp2_with fail
           exact HP.out _ _ (by rw[if_neg (fun h=>HK1.out h.2),if_neg (by rintro (h | h);exact h HER.out;rw[HFI.out] at h;cases h)];exact HR.out)
     · have d1:(er == 0)=false:=by simp[he]
       have d2:(er != 0)=true:=by simp[he]
       have HER:=zak he
       clear he
       go_wp2_with fail
       refine (zlr T R 84148225 _ H4.out HND.out (by simp) (by omega)).mono ?_
       rintro e W6 hR
       obtain⟨As,ns,cs,rfl⟩:= hR.shape
       have HR:=zak hR
       clear hR
       go_wp2_with fail
       exact HP.out _ _ (by rw[if_neg (fun h=>HER.out h.1),if_pos (.inl HER.out)];exact HR.out)
   · have dx:((x.toNat:Int) != 128)=true:=by have:x.toNat≠128:=fun h=>hx8 (UInt8.toNat_inj.1 h);simp;omega
     have HX8:=zak hx8
     clear hx8
     have hks:rKs T data=segK:=by unfold rKs;rw[if_pos ⟨H21.out,fun h=>HX8.out (HX.out.trans h)⟩]
     rw[hks] at HP HST
     obtain⟨M0,hM0⟩:∃ M0,M0=resM ansK data:=⟨_,rfl⟩
     obtain⟨er0,her0⟩:∃ er0,er0=errI ansK data:=⟨_,rfl⟩
     rw[← hM0] at H3
     rw[← hM0,← her0]
     have H4:Hid (RM w G p (rclL T R) [⟨g,34,[.int .i64 (1408+T.nd),.bool false,.slice (some ⟨bb,oo,none⟩) 8 c]⟩] [⟨R.A,R.n,R.c,T.b⟩,⟨R.A2,R.n2,R.c2,T.data⟩] (w3.alloc (.cells (msV M0 A3 n3 c3) 72))):= zak ((H3.out.subr (by simp)).alloc _)
     have hne4:∀ r ∈ ([⟨R.A,R.n,R.c,T.b⟩,⟨R.A2,R.n2,R.c2,T.data⟩]:List RB),∀ ad,r.A=some ad→ad.block≠w3.heap.size:=fun r hr ad e h=>by
      have hh:=((H3.out.rows r (by simp at hr ⊢;exact .inr hr)).2.2.2 ad e).2.1
      omega
     have HNE4:=zak hne4
     have HBk:=zak (zbu w3 72 (msV M0 A3 n3 c3))
     have q4:=HBk.out
     have HS4:=zak (HS3.out.alloc (.cells (msV M0 A3 n3 c3) 72))
     have hzz:=HB3.out.size
     clear hks hM0 her0 hne4
     unfold msV at q4 ⊢
     obtain⟨q4_c0,q4_c1,q4_c2,q4_c3,q4_c4,q4_c5,q4_c6,q4_c7,q4_c8,q4_c9,q4_c10,q4_c11,q4_c12,q4_c13⟩:= zbs q4
     have q4_f:=q4.frozen
     go_wp2_with fail
     have hsg:=znz (some ⟨bb,oo,none⟩) 8 c data _ HN.out HC8.out HS4.out
     unfold msV at hsg
     refine hsg.mono ?_
     rintro e w5 ⟨A5,n5,c5,rfl,hO5,hb5⟩
     obtain⟨M,hM⟩:∃ M,M=resM segK data:=⟨_,rfl⟩
     obtain⟨er,her⟩:∃ er,er=errI segK data:=⟨_,rfl⟩
     rw[← hM] at HP HST hO5
     rw[← her] at HP HST
     rw[← hM,← her]
     unfold msV
     have H5:=zak (H4.out.step hb5)
     have HBk5:Hid (Blk w5 w3.heap.size 72 (msV M0 A3 n3 c3)):= zak (HBk.out.below (by unfold msV;exact hb5) (by simp))
     have HO5:Hid (zb7 w5 (w3.heap.size+1) A5 n5 c5 M.data):= zak (hO5.mono (by simp))
     have ho6:zcd (fun q=>q=w3.heap.size) w5 (w5.setCells w3.heap.size 0 (rmL M A5 n5 c5)):= zcm (F:=fun q=>q=w3.heap.size) rfl _ _ (zcd.refl _ _)
     have hB6:Blk (w5.setCells w3.heap.size 0 (rmL M A5 n5 c5)) w3.heap.size 72 (rmL M A5 n5 c5).toArray:=zcl (rmL M A5 n5 c5) 0 (l:=(msV M0 A3 n3 c3).toList) HBk5.out (by simp[rmL,msV])
     have hpw:p < w3.heap.size:=z3
     have hO6:zb7 (w5.setCells w3.heap.size 0 (rmL M A5 n5 c5)) w.heap.size A5 n5 c5 M.data:=zb7.mono ⟨HO5.out.hn,HO5.out.own.keep fun g1 h1 h2 _=>ho6.block g1 h2 (fun (e:g1=w3.heap.size)=> by omega)⟩ (by omega)
     have h6:=((H5.out.away ho6 (by omega) (by omega) (fun x hx=>by simp at hx;subst hx;show g≠_;omega) HNE4.out).row hO6).add w3.heap.size 72 (rmL M A5 n5 c5) (by omega) hB6
     have H6:Hid (RM w G p (rclL T R) (⟨w3.heap.size,72,rmL M A5 n5 c5⟩ :: [⟨g,34,[.int .i64 (1408+T.nd),.bool false,.slice (some ⟨bb,oo,none⟩) 8 c]⟩]) [⟨A5,n5,c5,M.data⟩,⟨R.A,R.n,R.c,T.b⟩,⟨R.A2,R.n2,R.c2,T.data⟩] (w5.setCells w3.heap.size 0 (rmL M A5 n5 c5))):= zak h6
     simp only[World.setCells,rmL,Nat.reduceAdd] at H6
     have zk5:=HBk5.out.lt
     have qb5:=HBk5.out
     unfold msV at qb5
     clear q4_c0 q4_c1 q4_c2 q4_c3 q4_c4 q4_c5 q4_c6 q4_c7 q4_c8 q4_c9 q4_c10 q4_c11 q4_c12 q4_c13 q4_f
     clear hO5 hb5 hM her hB6 ho6 hO6 h6 q4 H4 H3 HB3 HS3 HS4 HBk HBk5 HO5 H5 b1 q2 hxc zbb hzz HNE4
     obtain⟨qb5_c0,qb5_c1,qb5_c2,qb5_c3,qb5_c4,qb5_c5,qb5_c6,qb5_c7,qb5_c8,qb5_c9,qb5_c10,qb5_c11,qb5_c12,qb5_c13⟩:= zbs qb5
     have qb5_f:=qb5.frozen
     go_upto_region 6 with fail
     refine zcn (P:=fun Wx=>RM w G p (rclL T R) (⟨w3.heap.size,72,rmL M A5 n5 c5⟩ :: [⟨g,34,[.int .i64 (1408+T.nd),.bool false,.slice (some ⟨bb,oo,none⟩) 8 c]⟩]) [⟨A5,n5,c5,M.data⟩,⟨R.A,R.n,R.c,T.b⟩,⟨R.A2,R.n2,R.c2,T.data⟩] Wx) (by exact H6.out) (fun Wx hx4=>?_)
     clear qb5_c0 qb5_c1 qb5_c2 qb5_c3 qb5_c4 qb5_c5 qb5_c6 qb5_c7 qb5_c8 qb5_c9 qb5_c10 qb5_c11 qb5_c12 qb5_c13 qb5_f
     clear H6 qb5 zk5
     obtain⟨g4,hg4⟩:∃ g4,g4=w3.heap.size:=⟨_,rfl⟩
     rw[← hg4] at hx4 ⊢
     clear hg4 zg3 hpw z3
     have H4:Hid (RM w G p (rclL T R) (⟨g4,72,(msV M A5 n5 c5).toList⟩ :: [⟨g,34,[.int .i64 (1408+T.nd),.bool false,.slice (some ⟨bb,oo,none⟩) 8 c]⟩]) [⟨A5,n5,c5,M.data⟩,⟨R.A,R.n,R.c,T.b⟩,⟨R.A2,R.n2,R.c2,T.data⟩] Wx):= zak hx4
     have z4:=hx4.lt
     have q4:Blk Wx g4 72 (msV M A5 n5 c5):= hx4.k0
     have zq4:=q4.lt
     clear hx4
     unfold msV at q4
     obtain⟨q4_c0,q4_c1,q4_c2,q4_c3,q4_c4,q4_c5,q4_c6,q4_c7,q4_c8,q4_c9,q4_c10,q4_c11,q4_c12,q4_c13⟩:= zbs q4
     have q4_f:=q4.frozen
     by_cases he:er=0
     · have d1:(er == 0)=true:=by simp[he]
       have d2:(er != 0)=false:=by simp[he]
       have HER:=zak he
       have hms0:=zak (HST.out he)
       clear he HST
       by_cases hk1:M.kind=1
       · have dk:(M.kind == 1)=true:=by simp[hk1]
         have HK1:=zak hk1
         clear hk1
         go_wp2_with fail
         refine (zlq T R M.code none 0 0 [] _ H4.out.rnil (by simp) (by simp)).mono ?_
         rintro e W5 ⟨rfl,A7,c7,h5⟩
         have HF:=zak (zll (T:=rEnds T M.code []) (R:={ R with A2:=A7,n2:=0,c2:=c7 }) h5 (by simp[rEnds]) (by simp[rEnds]))
         clear h5
         go_wp2_with fail
         exact HP.out _ _ (by rw[if_pos ⟨HER.out,HK1.out⟩];exact HF.out)
       · have dk:(M.kind == 1)=false:=by simp[hk1]
         have HK1:=zak hk1
         have HMS:=zak (hms0.out hk1)
         have HFT:=zak (fun W h=>znd (w0:=w) (G:=G) (p:=p) (rs:= [⟨A5,n5,c5,M.data⟩,⟨R.A,R.n,R.c,T.b⟩,⟨R.A2,R.n2,R.c2,T.data⟩]) (ks:=⟨g4,72,(msV M A5 n5 c5).toList⟩ :: [⟨g,34,[.int .i64 (1408+T.nd),.bool false,.slice (some ⟨bb,oo,none⟩) 8 c]⟩]) T R M A5 n5 c5 W h HMS.out.k)
         have HGO:=zak (fun W h=>znc (w0:=w) (G:=G) (p:=p) (rs:= [⟨A5,n5,c5,M.data⟩,⟨R.A,R.n,R.c,T.b⟩,⟨R.A2,R.n2,R.c2,T.data⟩]) (ks:=⟨g4,72,(msV M A5 n5 c5).toList⟩ :: [⟨g,34,[.int .i64 (1408+T.nd),.bool false,.slice (some ⟨bb,oo,none⟩) 8 c]⟩]) T R M A5 n5 c5 W h HND.out (by simp) (by simp) (by simp) HBN.out.1 HMS.out HBN.out.2.1 HBN.out.2.2)
         clear hk1 hms0
         unfold msV at H4 HFT HGO
         go_wp2_with fail
         refine (HFT.out _ H4.out).mono ?_
         rintro e W5 ⟨rfl,hb5⟩
         have H5:=zak (H4.out.step hb5)
         have q5:Blk W5 g4 72 (msV M A5 n5 c5):= H5.out.k0
         have zq5:=q5.lt
         have z5:=H5.out.lt
         clear hb5 HFT H4
         clear q4_c0 q4_c1 q4_c2 q4_c3 q4_c4 q4_c5 q4_c6 q4_c7 q4_c8 q4_c9 q4_c10 q4_c11 q4_c12 q4_c13 q4_f
         unfold msV at q5
         obtain⟨q5_c0,q5_c1,q5_c2,q5_c3,q5_c4,q5_c5,q5_c6,q5_c7,q5_c8,q5_c9,q5_c10,q5_c11,q5_c12,q5_c13⟩:= zbs q5
         have q5_f:=q5.frozen
         cases hft:rFitB T M
         · have HFI:=zak hft
           clear hft q4
           go_wp2_with fail
           refine (zlr T R 84148225 _ H5.out HND.out (by simp) (by omega)).mono ?_
           rintro e W6 hR
           obtain⟨As,ns,cs,rfl⟩:= hR.shape
           have HR:=zak hR
           clear hR
           go_wp2_with fail
           exact HP.out _ _ (by rw[if_neg (fun h=>HK1.out h.2),if_pos (.inr HFI.out)];exact HR.out)
         · have HFI:=zak hft
           clear hft q4
           go_wp2_with fail
           refine (HGO.out _ H5.out).mono ?_
           rintro e W6 hR
           obtain⟨As,ns,cs,rfl⟩:= hR.shape
           have HR:=zak hR
           clear hR
           go_wp2_with fail
           exact HP.out _ _ (by rw[if_neg (fun h=>HK1.out h.2),if_neg (by rintro (h | h);exact h HER.out;rw[HFI.out] at h;cases h)];exact HR.out)
     · have d1:(er == 0)=false:=by simp[he]
       have d2:(er != 0)=true:=by simp[he]
       have HER:=zak he
       clear he
       go_wp2_with fail
       refine (zlr T R 84148225 _ H4.out HND.out (by simp) (by omega)).mono ?_
       rintro e W6 hR
       obtain⟨As,ns,cs,rfl⟩:= hR.shape
       have HR:=zak hR
       clear hR
       go_wp2_with fail
       exact HP.out _ _ (by rw[if_neg (fun h=>HER.out h.1),if_pos (.inl HER.out)];exact HR.out)
 · have dw:(T.wk == 21)=false:=by simp[h21]
   have H21:=zak h21
   clear h21
   have hks:rKs T data=ansK:=by unfold rKs;rw[if_neg (fun h=>H21.out h.1)]
   rw[hks] at HP HST
   obtain⟨M,hM⟩:∃ M,M=resM ansK data:=⟨_,rfl⟩
   obtain⟨er,her⟩:∃ er,er=errI ansK data:=⟨_,rfl⟩
   rw[← hM] at HP HST H3
   rw[← her] at HP HST
   rw[← hM,← her]
   have H4:Hid (RM w G p (rclL T R) (⟨w3.heap.size,72,(msV M A3 n3 c3).toList⟩ :: [⟨g,34,[.int .i64 (1408+T.nd),.bool false,.slice (some ⟨bb,oo,none⟩) 8 c]⟩]) [⟨A3,n3,c3,M.data⟩,⟨R.A,R.n,R.c,T.b⟩,⟨R.A2,R.n2,R.c2,T.data⟩] (w3.alloc (.cells (msV M A3 n3 c3) 72))):= zak (H3.out.new _ _)
   have q4:=zbu w3 72 (msV M A3 n3 c3)
   clear hks hM her
   have z4:=H4.out.lt
   unfold msV at q4 ⊢
   obtain⟨q4_c0,q4_c1,q4_c2,q4_c3,q4_c4,q4_c5,q4_c6,q4_c7,q4_c8,q4_c9,q4_c10,q4_c11,q4_c12,q4_c13⟩:= zbs q4
   have q4_f:=q4.frozen
   go_upto_region 6 with fail
   refine zcn (P:=fun Wx=>RM w G p (rclL T R) (⟨w3.heap.size,72,(msV M A3 n3 c3).toList⟩ :: [⟨g,34,[.int .i64 (1408+T.nd),.bool false,.slice (some ⟨bb,oo,none⟩) 8 c]⟩]) [⟨A3,n3,c3,M.data⟩,⟨R.A,R.n,R.c,T.b⟩,⟨R.A2,R.n2,R.c2,T.data⟩] Wx) (by exact H4.out) (fun Wx hx4=>?_)
   clear q4_c0 q4_c1 q4_c2 q4_c3 q4_c4 q4_c5 q4_c6 q4_c7 q4_c8 q4_c9 q4_c10 q4_c11 q4_c12 q4_c13 q4_f
   clear q4 z4 H4 b1 q2 hxc zbb z3
   obtain⟨g4,hg4⟩:∃ g4,g4=w3.heap.size:=⟨_,rfl⟩
   rw[← hg4] at hx4 ⊢
   clear hg4 zg3 H3 HS3 HB3
   have H4:=zak hx4
   have z4:=hx4.lt
   have q4:Blk Wx g4 72 (msV M A3 n3 c3):= hx4.k0
   have zq4:=q4.lt
   clear hx4
   unfold msV at q4
   obtain⟨q4_c0,q4_c1,q4_c2,q4_c3,q4_c4,q4_c5,q4_c6,q4_c7,q4_c8,q4_c9,q4_c10,q4_c11,q4_c12,q4_c13⟩:= zbs q4
   have q4_f:=q4.frozen
   by_cases he:er=0
   · have d1:(er == 0)=true:=by simp[he]
     have d2:(er != 0)=false:=by simp[he]
     have HER:=zak he
     have hms0:=zak (HST.out he)
     clear he HST
     by_cases hk1:M.kind=1
     · have dk:(M.kind == 1)=true:=by simp[hk1]
       have HK1:=zak hk1
       clear hk1
       go_wp2_with fail
       refine (zlq T R M.code none 0 0 [] _ H4.out.rnil (by simp) (by simp)).mono ?_
       rintro e W5 ⟨rfl,A5,c5,h5⟩
       have HF:=zak (zll (T:=rEnds T M.code []) (R:={ R with A2:=A5,n2:=0,c2:=c5 }) h5 (by simp[rEnds]) (by simp[rEnds]))
       clear h5
       go_wp2_with fail
       exact HP.out _ _ (by rw[if_pos ⟨HER.out,HK1.out⟩];exact HF.out)
     · have dk:(M.kind == 1)=false:=by simp[hk1]
       have HK1:=zak hk1
       have HMS:=zak (hms0.out hk1)
       have HFT:=zak (fun W h=>znd (w0:=w) (G:=G) (p:=p) (rs:= [⟨A3,n3,c3,M.data⟩,⟨R.A,R.n,R.c,T.b⟩,⟨R.A2,R.n2,R.c2,T.data⟩]) (ks:=⟨g4,72,(msV M A3 n3 c3).toList⟩ :: [⟨g,34,[.int .i64 (1408+T.nd),.bool false,.slice (some ⟨bb,oo,none⟩) 8 c]⟩]) T R M A3 n3 c3 W h HMS.out.k)
       have HGO:=zak (fun W h=>znc (w0:=w) (G:=G) (p:=p) (rs:= [⟨A3,n3,c3,M.data⟩,⟨R.A,R.n,R.c,T.b⟩,⟨R.A2,R.n2,R.c2,T.data⟩]) (ks:=⟨g4,72,(msV M A3 n3 c3).toList⟩ :: [⟨g,34,[.int .i64 (1408+T.nd),.bool false,.slice (some ⟨bb,oo,none⟩) 8 c]⟩]) T R M A3 n3 c3 W h HND.out (by simp) (by simp) (by simp) HBN.out.1 HMS.out HBN.out.2.1 HBN.out.2.2)
       clear hk1 hms0
       unfold msV at H4 HFT HGO
       go_wp2_with fail
       refine (HFT.out _ H4.out).mono ?_
       rintro e W5 ⟨rfl,hb5⟩
       have H5:=zak (H4.out.step hb5)
       have q5:Blk W5 g4 72 (msV M A3 n3 c3):= H5.out.k0
       have zq5:=q5.lt
       have z5:=H5.out.lt
       clear hb5 HFT H4
       clear q4_c0 q4_c1 q4_c2 q4_c3 q4_c4 q4_c5 q4_c6 q4_c7 q4_c8 q4_c9 q4_c10 q4_c11 q4_c12 q4_c13 q4_f
       unfold msV at q5
       obtain⟨q5_c0,q5_c1,q5_c2,q5_c3,q5_c4,q5_c5,q5_c6,q5_c7,q5_c8,q5_c9,q5_c10,q5_c11,q5_c12,q5_c13⟩:= zbs q5
       have q5_f:=q5.frozen
       cases hft:rFitB T M
       · have HFI:=zak hft
         clear hft q4
         go_wp2_with fail
         refine (zlr T R 84148225 _ H5.out HND.out (by simp) (by omega)).mono ?_
         rintro e W6 hR
         obtain⟨As,ns,cs,rfl⟩:= hR.shape
         have HR:=zak hR
         clear hR
         go_wp2_with fail
         exact HP.out _ _ (by rw[if_neg (fun h=>HK1.out h.2),if_pos (.inr HFI.out)];exact HR.out)
       · have HFI:=zak hft
         clear hft q4
         go_wp2_with fail
         refine (HGO.out _ H5.out).mono ?_
         rintro e W6 hR
         obtain⟨As,ns,cs,rfl⟩:= hR.shape
         have HR:=zak hR
         clear hR
         go_wp2_with fail
         exact HP.out _ _ (by rw[if_neg (fun h=>HK1.out h.2),if_neg (by rintro (h | h);exact h HER.out;rw[HFI.out] at h;cases h)];exact HR.out)
   · have d1:(er == 0)=false:=by simp[he]
     have d2:(er != 0)=true:=by simp[he]
     have HER:=zak he
     clear he
     go_wp2_with fail
     refine (zlr T R 84148225 _ H4.out HND.out (by simp) (by omega)).mono ?_
     rintro e W6 hR
     obtain⟨As,ns,cs,rfl⟩:= hR.shape
     have HR:=zak hR
     clear hR
     go_wp2_with fail
     exact HP.out _ _ (by rw[if_neg (fun h=>HER.out h.1),if_pos (.inl HER.out)];exact HR.out)
theorem zn2 (T:RCli) (f:Frm) (A:Option Addr) (n c k:Nat) (w:World) (hS:RCV w G p T) (hnd:1≤T.nd∧T.nd≤127) (hBn:zip T k) (hk60:k≤60) (hn:n=f.data.length) (hc:n≤c) (hs:Sl w A (f.data.map bv))
 (hst:errI (rKs T f.data) f.data=0→(resM (rKs T f.data) f.data).kind≠1→MsB (resM (rKs T f.data) f.data)) :
 Calls Try.prog 17 #[.pointer (some ⟨p,0,none⟩),.agg #[.int .i64 f.id,.bool f.re,.slice A n c]] w (zli w G p (rRecvS T f) (rRecvL T f)):= by
 by_cases hno:T.wk=0∨f.id≠1408+T.nd∨f.re=true∨f.data.length≠8
 · exact zn0 T f A n c w hS hnd hn hno
 · have h0:T.wk≠0:=fun e=>hno (.inl e)
   exact zn1 T f A n c k w hS hnd hBn hk60 hn hc hs h0 (by
    by_cases h:f.id=1408+T.nd
    · exact h
    · exact absurd (.inr (.inl h)) hno) (by
    cases h:f.re
    · rfl
    · exact absurd (.inr (.inr (.inl h))) hno) (by
    by_cases h:f.data.length=8
    · exact h
    · exact absurd (.inr (.inr (.inr h))) hno) hst
end
end
end Go.Proofs.Ythdbckbpldlkeaa
