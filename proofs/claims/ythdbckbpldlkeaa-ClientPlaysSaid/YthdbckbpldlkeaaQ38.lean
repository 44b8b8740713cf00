/- None -/
import Derived.Test.YthdbckbpldlkeaaQ37
namespace Go.Proofs.Ythdbckbpldlkeaa
set_option linter.unusedVariables false
set_option linter.unusedSimpArgs false
set_option linter.unnecessarySimpa false
section
open Go.RowKit Go.Maps
set_option maxRecDepth 100000
set_option maxHeartbeats 8000000
section
variable {w0:World} {G:Nat→Prop} {p:Nat} {ks:List KB} {rs:List RB}
def TkR (w0:World) (G:Nat→Prop) (p:Nat) (ks:List KB) (T':RCli) (wx:World):Prop:=
 ∃ R' rs',RM w0 G p (rclL T' R') ks rs' wx∧⟨R'.A,R'.n,R'.c,T'.b⟩ ∈ rs'∧⟨R'.A2,R'.n2,R'.c2,T'.data⟩ ∈ rs'
theorem zmx (T:RCli) (R:RR) (M:Ms) (A:Option Addr) (n c:Nat) (W:World) (h:RM w0 G p (rclL T R) ks rs W) (hnd:1≤T.nd∧T.nd≤127) (hb:⟨R.A,R.n,R.c,T.b⟩ ∈ rs) (hd:⟨R.A2,R.n2,R.c2,T.data⟩ ∈ rs) (hM:⟨A,n,c,M.data⟩ ∈ rs) (hl:T.b.length≤100000) (hMl:M.data.length≤7) (hnx:0≤T.nx∧T.nx≤1001) :
 Calls Try.prog 67 #[.pointer (some ⟨p,0,none⟩),.agg (msV M A n c)] W (zli w0 G p (rTkS T M) (rTkL T M)):= by
 have hnm:n=M.data.length:=h.rn hM
 have hnr:R.n=T.b.length:=h.rn hb
 have H1:Hid (RM w0 G p (rclL T R) (⟨W.heap.size,72,(msV M A n c).toList⟩ :: ks) rs (W.alloc (.cells (msV M A n c) 72))):= zak (h.new _ _)
 have HND:=zak hnd
 have HBB:=zak hb
 have HDD:=zak hd
 have HM:=zak hM
 have HNM:=zak hnm
 have HNR:=zak hnr
 have hn7:n≤7:=by omega
 have hnb:R.n≤100000:=by omega
 obtain⟨P,hP⟩:∃ P,P=zli w0 G p (rTkS T M) (rTkL T M):= ⟨_,rfl⟩
 have HP:=zak hP
 rw[← hP]
 clear h hnd hb hd hM hP hnm hnr hl hMl
 unfold msV at H1 ⊢
 go_enter Try.func67,Try.ntmps67
 go_upto_region 1 with fail
 refine zcn (P:=fun W1=>RM w0 G p (rclL T R) (⟨W.heap.size,72,(msV M A n c).toList⟩ :: ks) rs W1) (by exact H1.out) (fun W1 h1=>?_)
 obtain⟨g,hg⟩:∃ g,g=W.heap.size:=⟨_,rfl⟩
 rw[← hg] at h1 ⊢
 clear H1 hg
 have H1:=zak h1
 have z1:=h1.lt
 have q:Blk W1 g 72 (msV M A n c):= h1.k0
 have zg:=q.lt
 have hgp:g≠p:=(h1.keep ⟨g,72,(msV M A n c).toList⟩ (by simp)).1
 have q10:W1.cell? ⟨g,10,none⟩=some (.int .i64 M.sq):= q.cell 10 rfl
 have b14:W1.cell? ⟨p,14,none⟩=some (.int .i64 T.nx):= h1.blk.cell 14 rfl
 clear h1 q
 obtain⟨hsb,hhsb⟩:∃ b:Bool,b=(M.sq == T.nx):= ⟨_,rfl⟩
 have hsb2:=hhsb.symm
 have HSB:=zak hhsb
 clear hhsb
 go_quiet (fail)
 go_upto_if 12 with fail
 refine zcn (P:=RM w0 G p (rclL T R) (⟨g,72,(msV M A n c).toList⟩ :: ks) rs) (H1.out.step (zb2 (Below.refl _ _) _)) (fun W2 h2=>?_)
 clear H1 z1 zg q10 b14 hsb2
 have H1:=zak h2
 have z1:=h2.lt
 have q:Blk W2 g 72 (msV M A n c):= h2.k0
 have zg:=q.lt
 have q9:W2.cell? ⟨g,9,none⟩=some (.slice A n c):= q.cell 9 rfl
 have b4:W2.cell? ⟨p,4,none⟩=some (.slice R.A R.n R.c):= h2.blk.cell 4 rfl
 clear h2 q
 go_cut [13,14,15,16,17,18,19,20,21,22,23,24,25,26,27,28,29,30,31,32,33,34,35] (fun _ _ _ _ _ _ _ _ _ _ _ _ _ _ _ _ _ _ _ _ _ _ _ wx=>TkR w0 G p (⟨g,72,(msV M A n c).toList⟩ :: ks) (rTkA T M) wx)
 case first=>
  cases hsb
  · have HTA:Hid (rTkA T M=T):= zak (by unfold rTkA;rw[if_neg (by have:=HSB.out;simpa using this.symm)])
    go_wp2_with fail
    go_meet
    exact (by rw[HTA.out];exact⟨R,rs,H1.out,HBB.out,HDD.out⟩)
  · have HTA:Hid (rTkA T M= { T with b:=T.b ++ M.data,nx:=T.nx+1,wk:=if M.la=true then 20 else T.wk }):= zak (by unfold rTkA;rw[if_pos (by have:=HSB.out;simpa using this.symm)])
    go_upto_region 2 with fail
    refine zaj (fun w'=>w'.cell? ⟨g,9,none⟩=some (.slice A n c)∧ w'.cell? ⟨p,4,none⟩=some (.slice R.A R.n R.c)) [0,1,2,3,4,5,6,7,8,9] (by kernel_rfl) ?hS1 (fun hHeld=>?rest1)
    case hS1=>((try dsimp only);exact⟨q9,b4⟩)
    case' rest1=>skip
    refine tkT 0 ?_
    try simp only[PqL,Act.put]
    refine tkT 1 ?_
    try simp only[PqL,Act.put]
    refine tkT 2 ?_
    try simp only[PqL,Act.put]
    refine tkT 3 ?_
    try simp only[PqL,Act.put]
    refine tkT 4 ?_
    try simp only[PqL,Act.put]
    refine tkT 5 ?_
    try simp only[PqL,Act.put]
    refine tkT 6 ?_
    try simp only[PqL,Act.put]
    refine zag (i:=7) (o:=_) rfl (by kernel_rfl) (fun K hK=>?_)
    go_simp
    refine (zc8 R.A A R.n n R.c c T.b M.data _ HNR.out HNM.out (by omega) (by omega) (H1.out.drew.sl HBB.out) (H1.out.drew.sl HM.out)).mono ?_
    rintro e w3 ⟨A6,N6,c6,rfl,hO6,hb6⟩
    dsimp only
    have H6:=zak ((H1.out.drew.step hb6).row (hO6.mono H1.out.drew.size))
    have HN6:Hid (N6=(T.b ++ M.data).length):= zak hO6.hn
    have q6':Blk w3 g 72 (msV M A n c):= H6.out.k0
    have Q6:=zak q6'
    have b4b:w3.cell? ⟨p,4,none⟩=some (.slice R.A R.n R.c):= H6.out.blk.cell 4 rfl
    have f4:=H6.out.blk.frozen 4
    have z6:=H6.out.lt
    clear hO6 hb6 q6'
    refine hK.out _ _ ?hS10 (fun hHeld=>?rest10)
    case hS10=>((try dsimp only);(exact⟨Q6.out.cell 9 rfl,b4b⟩))
    case' rest10=>(clear hK K;try simp only[PqL,Act.put])
    refine tkT 8 ?_
    try simp only[PqL,Act.put]
    refine tkT 9 ?_
    try simp only[PqL,Act.put]
    refine zah (i:=10) (o:=_) rfl (by kernel_rfl) (by kernel_rfl) (fun K hK=>?_)
    go_simp
    refine hK.out _ _ ?rest14
    case' rest14=>(clear hK K;try simp only[PqL,Act.put])
    refine zai (by kernel_rfl) ?_ _
    repeat (clear hHeld)
    have H7:Hid (RM w0 G p (rclL { T with b:=T.b ++ M.data } { R with A:=A6,n:=N6,c:=c6 }) (⟨g,72,(msV M A n c).toList⟩ :: ks) (⟨A6,N6,c6,T.b ++ M.data⟩ :: rs) (w3.setCell ⟨p,4,none⟩ (.slice A6 N6 c6))):= zak (H6.out.set 4 _)
    clear H6 Q6 b4b f4 z6 b4 q9 z1 zg H1
    go_upto_region 3 with fail
    refine zcn (P:=RM w0 G p (rclL { T with b:=T.b ++ M.data } { R with A:=A6,n:=N6,c:=c6 }) (⟨g,72,(msV M A n c).toList⟩ :: ks) (⟨A6,N6,c6,T.b ++ M.data⟩ :: rs)) H7.out (fun W7 h7=>?_)
    clear H7
    have H8:Hid (RM w0 G p (rclL { T with b:=T.b ++ M.data,nx:=T.nx+1 } { R with A:=A6,n:=N6,c:=c6 }) (⟨g,72,(msV M A n c).toList⟩ :: ks) (⟨A6,N6,c6,T.b ++ M.data⟩ :: rs) (W7.setCell ⟨p,14,none⟩ (.int .i64 (T.nx+1)))):= zak (h7.set 14 _)
    have b14:W7.cell? ⟨p,14,none⟩=some (.int .i64 T.nx):= h7.blk.cell 14 rfl
    have f14:=h7.blk.frozen 14
    have z7:=h7.lt
    clear h7
    go_upto_region 4 with fail
    refine zcn (P:=RM w0 G p (rclL { T with b:=T.b ++ M.data,nx:=T.nx+1 } { R with A:=A6,n:=N6,c:=c6 }) (⟨g,72,(msV M A n c).toList⟩ :: ks) (⟨A6,N6,c6,T.b ++ M.data⟩ :: rs)) H8.out (fun W8 h8=>?_)
    clear H8 b14 f14 z7
    have H8:=zak h8
    have z8:=h8.lt
    have q:Blk W8 g 72 (msV M A n c):= h8.k0
    have zg:=q.lt
    have b1:W8.cell? ⟨p,1,none⟩=some (.int .i64 T.wk):= h8.blk.cell 1 rfl
    have f1:=h8.blk.frozen 1
    rcases Bool.eq_false_or_eq_true M.la with hla | hla
    · have q4:W8.cell? ⟨g,4,none⟩=some (.bool true):= by rw[← hla];exact q.cell 4 rfl
      have HLA:=zak hla
      have HU:Hid (RM w0 G p (rclL { T with b:=T.b ++ M.data,nx:=T.nx+1,wk:=20 } { R with A:=A6,n:=N6,c:=c6 }) (⟨g,72,(msV M A n c).toList⟩ :: ks) (⟨A6,N6,c6,T.b ++ M.data⟩ :: rs) (W8.setCell ⟨p,1,none⟩ (.int .i64 20))):= zak (h8.set 1 _)
      clear h8 q hla
      go_wp2_with fail
      go_meet
      exact (by rw[HTA.out,if_pos HLA.out];exact⟨{ R with A:=A6,n:=N6,c:=c6 },_,HU.out,by simp,by simp;exact .inr HDD.out⟩)
    · have q4:W8.cell? ⟨g,4,none⟩=some (.bool false):= by rw[← hla];exact q.cell 4 rfl
      have HLA:=zak hla
      clear h8 q hla
      go_wp2_with fail
      go_meet
      exact (by rw[HTA.out,if_neg (by rw[HLA.out];decide)];exact⟨{ R with A:=A6,n:=N6,c:=c6 },_,H8.out,by simp,by simp;exact .inr HDD.out⟩)
 case rest=>
  obtain⟨R2,rs2,hC,hB2,hD2⟩:= hcut
  obtain⟨T2,hT2⟩:∃ T2,T2=rTkA T M:=⟨_,rfl⟩
  rw[← hT2] at hC hB2 hD2
  have HT2:=zak hT2
  have HB2:=zak hB2
  have HD2:=zak hD2
  have HND2:Hid (T2.nd=T.nd):= zak (by rw[hT2];unfold rTkA;split<;>rfl)
  have hx2:0≤T2.nx∧T2.nx≤1002:=by
   rw[hT2]
   unfold rTkA
   split
   · dsimp only;omega
   · omega
  have HC:=zak hC
  have z2:=hC.lt
  have q2:Blk wc g 72 (msV M A n c):= hC.k0
  have zg2:=q2.lt
  have p4:wc.cell? ⟨g,4,none⟩=some (.bool M.la):= q2.cell 4 rfl
  have p10:wc.cell? ⟨g,10,none⟩=some (.int .i64 M.sq):= q2.cell 10 rfl
  have b14:wc.cell? ⟨p,14,none⟩=some (.int .i64 T2.nx):= hC.blk.cell 14 rfl
  clear hC hT2 hB2 hD2 q9 b4 zg z1 H1 q2
  by_cases hno:M.sq≠32∧M.la=false
  · obtain⟨hn1,hn3⟩:= hno
    have HF:Hid (zli w0 G p (rTkS T M) (rTkL T M) (.returned (.slice none 0 0)) wc):= zak (by
     have hh:=zll HC.out HB2.out HD2.out
     unfold rTkS rTkL
     rw[if_pos ⟨hn1,hn3⟩,if_pos ⟨hn1,hn3⟩,← HT2.out]
     exact hh)
    have d1:(M.sq != 32)=true:=by simp[hn1]
    rw[hn3] at p4
    have HN3:=zak hn3
    clear hn1 hn3
    go_wp2_with fail
    rw[HP.out]
    exact HF.out
  · have HNO:=zak hno
    clear hno
    have HP2:Hid (P=zli w0 G p { T2 with nx:=1 } (rSend T2 [buaM (T2.nx - 1)])):= zak (by
     rw[HP.out]
     unfold rTkS rTkL
     rw[if_neg HNO.out,if_neg HNO.out,← HT2.out]
     congr 1
     unfold rSend
     rw[HND2.out])
    by_cases h32:M.sq=32
    · have d1:(M.sq != 32)=false:=by simp[h32]
      clear h32
      go_upto_region 9 with fail
      refine zcn (P:=fun W3=>RM w0 G p (rclL T2 R2) (⟨wc.heap.size,72,(msV (buaM (T2.nx - 1)) none 0 0).toList⟩ :: (⟨g,72,(msV M A n c).toList⟩ :: ks)) rs2 W3) (by exact HC.out.new 72 (msV (buaM (T2.nx - 1)) none 0 0).toList) (fun W3 h3=>?_)
      obtain⟨g5,hg5⟩:∃ g5,g5=wc.heap.size:=⟨_,rfl⟩
      rw[← hg5] at h3 ⊢
      clear hg5 b14 HC z2 zg2 p4 p10
      have H4:Hid (RM w0 G p (rclL { T2 with nx:=1 } R2) (⟨g5,72,(msV (buaM (T2.nx - 1)) none 0 0).toList⟩ :: (⟨g,72,(msV M A n c).toList⟩ :: ks)) rs2 (W3.setCell ⟨p,14,none⟩ (.int .i64 1))):= zak (h3.set 14 _)
      have z3:=h3.lt
      have b14:W3.cell? ⟨p,14,none⟩=some (.int .i64 T2.nx):= h3.blk.cell 14 rfl
      have f14:=h3.blk.frozen 14
      clear h3
      go_upto_region 10 with fail
      refine zcn (P:=RM w0 G p (rclL { T2 with nx:=1 } R2) (⟨g5,72,(msV (buaM (T2.nx - 1)) none 0 0).toList⟩ :: (⟨g,72,(msV M A n c).toList⟩ :: ks)) rs2) H4.out (fun W5 h5=>?_)
      clear H4 z3 b14 f14
      have H5:=zak h5
      have q5:Blk W5 g5 72 (msV (buaM (T2.nx - 1)) none 0 0):= h5.k0
      have HSA:=zak (zln (p:=p) T2.nd (buaM (T2.nx - 1)) none 0 0 W5 (h5.blk.cell 0 rfl) (by rw[HND2.out];exact HND.out) rfl (Sl.nil _ _) ⟨Nat.zero_le _,Nat.zero_le _,Nat.zero_le _⟩)
      have z5:=h5.lt
      have zg5:=q5.lt
      unfold msV buaM at q5 HSA
      dsimp only at q5 HSA
      obtain⟨q5_c0,q5_c1,q5_c2,q5_c3,q5_c4,q5_c5,q5_c6,q5_c7,q5_c8,q5_c9,q5_c10,q5_c11,q5_c12,q5_c13⟩:= zbs q5
      have q5_f:=q5.frozen
      clear h5
      go_wp2_with fail
      refine HSA.out.mono ?_
      rintro e w6 ⟨As,ns,cs,ds,rfl,hO,hb⟩
      have HF:=zak (zlk (T:={ T2 with nx:=1 }) (R:=R2) (L:= [buaM (T2.nx - 1)]) H5.out HB2.out HD2.out ⟨As,ns,cs,ds,rfl,hO,hb⟩)
      clear hO hb
      go_wp2_with fail
      rw[HP2.out]
      exact HF.out
    · have d1:(M.sq != 32)=true:=by simp[h32]
      have hla:M.la=true:=by
       cases hq:M.la
       · exact absurd ⟨h32,hq⟩ HNO.out
       · rfl
      rw[hla] at p4
      have HLA:=zak hla
      clear h32 hla
      go_upto_region 9 with fail
      refine zcn (P:=fun W3=>RM w0 G p (rclL T2 R2) (⟨wc.heap.size,72,(msV (buaM (T2.nx - 1)) none 0 0).toList⟩ :: (⟨g,72,(msV M A n c).toList⟩ :: ks)) rs2 W3) (by exact HC.out.new 72 (msV (buaM (T2.nx - 1)) none 0 0).toList) (fun W3 h3=>?_)
      obtain⟨g5,hg5⟩:∃ g5,g5=wc.heap.size:=⟨_,rfl⟩
      rw[← hg5] at h3 ⊢
      clear hg5 b14 HC z2 zg2 p4 p10
      have H4:Hid (RM w0 G p (rclL { T2 with nx:=1 } R2) (⟨g5,72,(msV (buaM (T2.nx - 1)) none 0 0).toList⟩ :: (⟨g,72,(msV M A n c).toList⟩ :: ks)) rs2 (W3.setCell ⟨p,14,none⟩ (.int .i64 1))):= zak (h3.set 14 _)
      have z3:=h3.lt
      have b14:W3.cell? ⟨p,14,none⟩=some (.int .i64 T2.nx):= h3.blk.cell 14 rfl
      have f14:=h3.blk.frozen 14
      clear h3
      go_upto_region 10 with fail
      refine zcn (P:=RM w0 G p (rclL { T2 with nx:=1 } R2) (⟨g5,72,(msV (buaM (T2.nx - 1)) none 0 0).toList⟩ :: (⟨g,72,(msV M A n c).toList⟩ :: ks)) rs2) H4.out (fun W5 h5=>?_)
      clear H4 z3 b14 f14
      have H5:=zak h5
      have q5:Blk W5 g5 72 (msV (buaM (T2.nx - 1)) none 0 0):= h5.k0
      have HSA:=zak (zln (p:=p) T2.nd (buaM (T2.nx - 1)) none 0 0 W5 (h5.blk.cell 0 rfl) (by rw[HND2.out];exact HND.out) rfl (Sl.nil _ _) ⟨Nat.zero_le _,Nat.zero_le _,Nat.zero_le _⟩)
      have z5:=h5.lt
      have zg5:=q5.lt
      unfold msV buaM at q5 HSA
      dsimp only at q5 HSA
      obtain⟨q5_c0,q5_c1,q5_c2,q5_c3,q5_c4,q5_c5,q5_c6,q5_c7,q5_c8,q5_c9,q5_c10,q5_c11,q5_c12,q5_c13⟩:= zbs q5
      have q5_f:=q5.frozen
      clear h5
      go_wp2_with fail
      refine HSA.out.mono ?_
      rintro e w6 ⟨As,ns,cs,ds,rfl,hO,hb⟩
      have HF:=zak (zlk (T:={ T2 with nx:=1 }) (R:=R2) (L:= [buaM (T2.nx - 1)]) H5.out HB2.out HD2.out ⟨As,ns,cs,ds,rfl,hO,hb⟩)
      clear hO hb
      go_wp2_with fail
      rw[HP2.out]
      exact HF.out
end
end
section
open Go.RowKit Go.Maps
set_option maxRecDepth 100000
set_option maxHeartbeats 8000000
section
variable {w0:World} {G:Nat→Prop} {p:Nat} {ks:List KB} {rs:List RB}
theorem zmy (T:RCli) (R:RR) (M:Ms) (A:Option Addr) (n c:Nat) (W:World) (h:RM w0 G p (rclL T R) ks rs W) (hnd:1≤T.nd∧T.nd≤127) (hb:⟨R.A,R.n,R.c,T.b⟩ ∈ rs) (hd:⟨R.A2,R.n2,R.c2,T.data⟩ ∈ rs) (hM:⟨A,n,c,M.data⟩ ∈ rs) (hl:T.b.length≤100000) (hMl:M.data.length≤7) (hemr:0≤M.em∧M.em≤7) (hsum:M.sum≤65535) :
 Calls Try.prog 68 #[.pointer (some ⟨p,0,none⟩),.agg (msV M A n c)] W (zli w0 G p (rEndS T M) (rEndL T M)):= by
 have hnm:n=M.data.length:=h.rn hM
 have hnr:R.n=T.b.length:=h.rn hb
 have H1:Hid (RM w0 G p (rclL T R) (⟨W.heap.size,72,(msV M A n c).toList⟩ :: ks) rs (W.alloc (.cells (msV M A n c) 72))):= zak (h.new _ _)
 have HND:=zak hnd
 have HBB:=zak hb
 have HDD:=zak hd
 have HM:=zak hM
 have HNM:=zak hnm
 have HNR:=zak hnr
 have hn7:n≤7:=by omega
 have hnb:R.n≤100000:=by omega
 obtain⟨P,hP⟩:∃ P,P=zli w0 G p (rEndS T M) (rEndL T M):= ⟨_,rfl⟩
 have HP:=zak hP
 rw[← hP]
 obtain⟨em,hem⟩:∃ em:Nat,M.em=(em:Int):= ⟨M.em.toNat,by omega⟩
 have HEM:=zak hem
 have hem7:em≤7:=by omega
 have hrc:R.n≤R.c:=h.rc hb
 obtain⟨k,hk⟩:∃ k,k=R.n - em:=⟨_,rfl⟩
 have hkn:k≤R.n:=by omega
 have HKK:=zak hk
 have HEB:Hid (rEndB T M=T.b.take k):= zak (by unfold rEndB;rw[hem,hk,hnr];rfl)
 obtain⟨sm,hsm⟩:∃ sm,sm=sum16L (T.b.take k):= ⟨_,rfl⟩
 have HSM:=zak hsm
 obtain⟨c1,hc1⟩:∃ c1:Bool,c1=(T.cr && decide (sm≠M.sum)):= ⟨_,rfl⟩
 obtain⟨c2,hc2⟩:∃ c2:Bool,c2=(decide (R.n < em) || (T.sz && decide ((k:Int)≠ T.si))):= ⟨_,rfl⟩
 have HC1:=zak hc1
 have HC2:=zak hc2
 have hlk:(T.b.take k).length=k:=by rw[List.length_take];omega
 have HLK:=zak hlk
 have HEC:Hid (rEndC T M=if c1=true then 84148228 else if c2=true then 101122064 else 0):= zak (by
  unfold rEndC
  rw[HEB.out,hc1,hc2,hsm,hlk,hem,← hnr]
  simp only[Bool.and_eq_true,Bool.or_eq_true,decide_eq_true_iff,Int.ofNat_lt])
 have hcut:=fun W=>zgo R.A R.n R.c k ((k:Nat):Int) .i64 rfl (by omega) W
 have hcut0:R.n < em→k=0:=fun h=>by omega
 have HCUT0:=zak hcut0
 clear hk hsm hc1 hc2 hlk hem hcut0
 clear h hnd hb hd hM hP hnm hnr hl hMl
 unfold msV at H1 ⊢
 go_enter Try.func68,Try.ntmps68
 go_upto_region 1 with fail
 refine zcn (P:=fun W1=>RM w0 G p (rclL T R) (⟨W.heap.size,72,(msV M A n c).toList⟩ :: ks) rs W1) (by exact H1.out) (fun W1 h1=>?_)
 obtain⟨g,hg⟩:∃ g,g=W.heap.size:=⟨_,rfl⟩
 rw[← hg] at h1 ⊢
 clear H1 hg
 have H1:=zak h1
 have z1:=h1.lt
 have q:Blk W1 g 72 (msV M A n c):= h1.k0
 have zg:=q.lt
 have hgp:g≠p:=(h1.keep ⟨g,72,(msV M A n c).toList⟩ (by simp)).1
 have q12:W1.cell? ⟨g,12,none⟩=some (.int .i64 (em:Nat)):= by rw[← HEM.out];exact q.cell 12 rfl
 have b4:W1.cell? ⟨p,4,none⟩=some (.slice R.A R.n R.c):= h1.blk.cell 4 rfl
 clear h1 q
 go_quiet (fail)
 go_upto_if 16 with fail
 go_cut [5] (fun v5 wx=>v5= .int .i64 (k:Nat)∧ RM w0 G p (rclL T R) (⟨g,72,(msV M A n c).toList⟩ :: ks) rs wx)
 case first=>
  by_cases hlt:R.n < em
  · have hk0:=HCUT0.out hlt
    subst hk0
    have hneg:(R.n:Int) - (em:Int) < 0:=by omega
    go_wp2_with fail
    go_meet
    exact⟨rfl,H1.out.step bl⟩
  · have hki:(R.n:Int) - (em:Int)=(k:Int):= by have:=HKK.out;omega
    have hneg: ¬ (k:Int) < 0:=by omega
    go_wp2_with fail
    go_meet
    exact⟨rfl,H1.out.step bl⟩
 case rest=>
  obtain⟨rfl,hC⟩:= hcut
  have d4:wc.cell? ⟨p,4,none⟩=some (.slice R.A R.n R.c):= hC.blk.cell 4 rfl
  have zd:=hC.lt
  go_upto_region 5 with fail
  refine zcn (P:=RM w0 G p (rclL T R) (⟨g,72,(msV M A n c).toList⟩ :: ks) rs) hC (fun W2 h1=>?_)
  clear hC H1 q12 b4 zg z1 d4 zd
  have H1:=zak h1
  have z1:=h1.lt
  have q:Blk W2 g 72 (msV M A n c):= h1.k0
  have zg:=q.lt
  have q12:W2.cell? ⟨g,12,none⟩=some (.int .i64 (em:Nat)):= by rw[← HEM.out];exact q.cell 12 rfl
  have q13:W2.cell? ⟨g,13,none⟩=some (.int .u16 (M.sum:Nat)):= q.cell 13 rfl
  have b4:W2.cell? ⟨p,4,none⟩=some (.slice R.A R.n R.c):= h1.blk.cell 4 rfl
  have b9:W2.cell? ⟨p,9,none⟩=some (.bool T.sz):= h1.blk.cell 9 rfl
  have b10:W2.cell? ⟨p,10,none⟩=some (.int .i64 T.si):= h1.blk.cell 10 rfl
  have b11:W2.cell? ⟨p,11,none⟩=some (.bool T.cr):= h1.blk.cell 11 rfl
  clear h1 q
  have HSU:=zak (fun W h=>zmw R.A k R.c (T.b.take k) W HLK.out.symm (by omega) h)
  rw[← HSM.out] at HSU
  go_cut [23,24,25,26,27,28,29,30,31,32,33] (fun _ _ _ _ _ _ _ _ _ _ v33 wx=>v33= .bool c1∧RM w0 G p (rclL T R) (⟨g,72,(msV M A n c).toList⟩ :: ks) rs wx)
  case first=>
   rcases Bool.eq_false_or_eq_true T.cr with hcr | hcr
   · rw[hcr] at b11
     have dd:((sm:Int) != (M.sum:Int))=c1:=by
      rw[HC1.out,hcr]
      by_cases hx:sm=M.sum
      · simp[hx]
      · simp[hx];omega
     refine wp_region_held_drew (S:=(fun w'=>(∀ qA:Addr,qA.block < (W2).heap.size→w'.cell? qA=(W2).cell? qA)∧ Below (W2).heap.size (W2) w')) (by kernel_rfl) ?hS1 (fun hHeld=>?rest1)
     case hS1=>((try dsimp only);(((try go_split_ands);refine zbn ?_;all_goals exact bl)))
     case' rest1=>skip
     iterate 6 (refine tkN ?_;try simp only[PqL,Act.put])
     refine tkH 7 ?_
     try simp only[PqL,Act.put]
     refine tkH 8 ?_
     try simp only[PqL,Act.put]
     refine wpAnyH_ready (rs:= [6]) (by kernel_rfl) (by simp) ?_
     refine AllReadyH.cons (o:=_) rfl (fun K hK=>?_) .nil
     go_simp
     refine (HSU.out _ (by rw[List.map_take];exact (H1.out.drew.sl HBB.out).take _)).mono ?_
     rintro e W3 ⟨rfl,hw3⟩
     subst hw3
     refine hK.out _ _ ?hS12 (fun hHeld=>?rest12)
     case hS12=>((try dsimp only);(((try go_split_ands);refine zbn ?_;all_goals exact bl)))
     case' rest12=>(clear hK K;try simp only[PqL,Act.put])
     refine tkH 9 ?_
     try simp only[PqL,Act.put]
     refine tkH 10 ?_
     try simp only[PqL,Act.put]
     refine wpAnyH_done (by kernel_rfl) ?_ _
     have hEnd:=hHeld.2
     repeat (clear hHeld)
     go_wp2_with fail
     go_meet
     exact⟨rfl,H1.out.step bl⟩
   · rw[hcr] at b11
     have dd:c1=false:=by rw[HC1.out,hcr];rfl
     go_quiet (fail)
     go_wp2_with fail
     go_meet
     exact⟨by rw[dd],H1.out.step bl⟩
  case rest=>
   obtain⟨rfl,hC⟩:= hcut
   have H3:=zak hC
   clear hC H1 q12 q13 b4 b9 b10 b11 zg z1
   cases c1
   · skip
     go_upto_region 7 with fail
     refine zcn (P:=RM w0 G p (rclL T R) (⟨g,72,(msV M A n c).toList⟩ :: ks) rs) H3.out (fun W3 h1=>?_)
     clear H3
     have H3:=zak h1
     have z1:=h1.lt
     have q:Blk W3 g 72 (msV M A n c):= h1.k0
     have zg:=q.lt
     have q12:W3.cell? ⟨g,12,none⟩=some (.int .i64 (em:Nat)):= by rw[← HEM.out];exact q.cell 12 rfl
     have b4:W3.cell? ⟨p,4,none⟩=some (.slice R.A R.n R.c):= h1.blk.cell 4 rfl
     have b9:W3.cell? ⟨p,9,none⟩=some (.bool T.sz):= h1.blk.cell 9 rfl
     have b10:W3.cell? ⟨p,10,none⟩=some (.int .i64 T.si):= h1.blk.cell 10 rfl
     clear h1 q
     go_cut [36,37,38,39,40,41,42,43,44,45,46,47,48,49,50,51,52,53,54,55,56,57,58] (fun _ _ _ _ _ _ _ _ _ _ _ _ _ _ _ _ _ _ _ _ _ _ v58 wx=>v58= .bool c2∧RM w0 G p (rclL T R) (⟨g,72,(msV M A n c).toList⟩ :: ks) rs wx)
     case first=>
      by_cases hlt:R.n < em
      · have dl:(R.n:Int) < (em:Int):= by omega
        have dd:c2=true:=by rw[HC2.out];simp[hlt]
        go_quiet (fail)
        go_wp2_with fail
        go_meet
        exact⟨by rw[dd],H3.out.step bl⟩
      · have dl: ¬ (R.n:Int) < (em:Int):= by omega
        rcases Bool.eq_false_or_eq_true T.sz with hsz | hsz
        · rw[hsz] at b9
          have dd:((k:Int) != T.si)=c2:=by
           rw[HC2.out,hsz]
           by_cases hx:(k:Int)=T.si
           · simp[hx,hlt]
           · simp[hx,hlt]
          go_quiet (fail)
          go_wp2_with fail
          go_meet
          exact⟨rfl,H3.out.step bl⟩
        · rw[hsz] at b9
          have dd:c2=false:=by rw[HC2.out,hsz];simp[hlt]
          go_quiet (fail)
          go_wp2_with fail
          go_meet
          exact⟨by rw[dd],H3.out.step bl⟩
     case rest=>
      obtain⟨rfl,hC⟩:= hcut
      have H4:=zak hC
      clear hC H3 q12 b4 b9 b10 zg z1
      cases c2
      · have HP2:Hid (P=zli w0 G p (rEnds T 0 (T.b.take k)) (rSend T [bueM])):= zak (by
         have hz: ¬ rEndC T M≠0:=by rw[HEC.out];decide
         rw[HP.out];unfold rEndS rEndL;rw[if_neg hz,if_neg hz,HEB.out])
        have H5:Hid (RM w0 G p (rclL T R) (⟨g,72,(msV M A n c).toList⟩ :: ks) (⟨R.A,k,R.c,T.b.take k⟩ :: rs) wc):= zak ⟨H4.out.blk,H4.out.lt0,H4.out.only,H4.out.keep,by
         intro r hr
         rcases List.mem_cons.1 hr with rfl | hr
         · have h0:=H4.out.rows _ HBB.out
           exact⟨HLK.out.symm,Nat.le_trans hkn h0.2.1,by rw[List.map_take];exact h0.2.2.1.take _,h0.2.2.2⟩
         · exact H4.out.rows r hr⟩
        clear H4
        go_wp2_with fail
        refine (zlq T R 0 R.A k R.c (T.b.take k) _ H5.out (by simp) (by have:=HLK.out;omega)).mono ?_
        rintro e W5 ⟨rfl,A',c',h6⟩
        have H6:=zak h6
        have HS6:=zak (zln (p:=p) T.nd bueM none 0 0 W5 (h6.blk.cell 0 rfl) HND.out rfl (Sl.nil _ _) ⟨Nat.zero_le _,Nat.zero_le _,Nat.zero_le _⟩)
        unfold msV bueM at HS6
        clear h6 H5
        go_wp2_with fail
        refine HS6.out.mono ?_
        rintro e w6 ⟨As,ns,cs,ds,rfl,hO,hb⟩
        have HF:=zak (zlk (T:=rEnds T 0 (T.b.take k)) (R:={ R with A2:=A',n2:=k,c2:=c' }) (L:= [bueM]) H6.out (by simp;exact .inr (.inr HBB.out)) (by simp[rEnds]) ⟨As,ns,cs,ds,rfl,hO,hb⟩)
        clear hO hb
        go_wp2_with fail
        rw[HP2.out]
        exact HF.out
      · have HP2:Hid (P=zli w0 G p (rEnds T 101122064 []) (rGivL T 101122064)):= zak (by
         have hz:rEndC T M≠0:=by rw[HEC.out];decide
         rw[HP.out];unfold rEndS rEndL;rw[if_pos hz,if_pos hz,HEC.out];rfl)
        go_wp2_with fail
        refine (zlr T R 101122064 _ H4.out HND.out HBB.out (by omega)).mono ?_
        rintro e W9 hR
        obtain⟨As,ns,cs,rfl⟩:= hR.shape
        have HR:=zak hR
        clear hR
        go_wp2_with fail
        rw[HP2.out]
        exact HR.out
   · have HP2:Hid (P=zli w0 G p (rEnds T 84148228 []) (rGivL T 84148228)):= zak (by
      have hz:rEndC T M≠0:=by rw[HEC.out,if_pos rfl];decide
      rw[HP.out];unfold rEndS rEndL;rw[if_pos hz,if_pos hz,HEC.out];rfl)
     go_wp2_with fail
     refine (zlr T R 84148228 _ H3.out HND.out HBB.out (by omega)).mono ?_
     rintro e W9 hR
     obtain⟨As,ns,cs,rfl⟩:= hR.shape
     have HR:=zak hR
     clear hR
     go_wp2_with fail
     rw[HP2.out]
     exact HR.out
end
end
end Go.Proofs.Ythdbckbpldlkeaa
