/- None -/
import Derived.Test.YthdbckbpldlkeaaQ35
import Derived.Test.YthdbckbpldlkeaaQ36
import Derived.Test.YthdbckbpldlkeaaQ38
namespace Go.Proofs.Ythdbckbpldlkeaa
set_option linter.unusedVariables false
set_option linter.unusedSimpArgs false
set_option linter.unnecessarySimpa false
section
open Go.RowKit Go.Maps
set_option maxRecDepth 100000
set_option maxHeartbeats 8000000
section
variable {w0:World} {G:Nat→Prop} {p:Nat} {ks:List KB} {rs:List RB}
theorem zmz (T:RCli) (R:RR) (M:Ms) (A:Option Addr) (n c:Nat) (W:World) (h:RM w0 G p (rclL T R) ks rs W) (hnd:1≤T.nd∧T.nd≤127) (hb:⟨R.A,R.n,R.c,T.b⟩ ∈ rs) (hd:⟨R.A2,R.n2,R.c2,T.data⟩ ∈ rs) (hM:⟨A,n,c,M.data⟩ ∈ rs) (hl:T.b.length≤100000) (hMl:M.data.length≤7) (hMs:MsB M) (hhb:0≤T.ha∧T.ha≤90000) (hnx:0≤T.nx∧T.nx≤1001) (hk:M.kind=12) (hq:T.qk=true) :
 Calls Try.prog 44 #[.pointer (some ⟨p,0,none⟩),.agg (msV M A n c)] W (zli w0 G p (rGoS T M) (rGoL T M)):= by
 have hnm:n=M.data.length:=h.rn hM
 have hnr:R.n=T.b.length:=h.rn hb
 have H1:Hid (RM w0 G p (rclL T R) (⟨W.heap.size,72,(msV M A n c).toList⟩ :: ks) rs (W.alloc (.cells (msV M A n c) 72))):= zak (h.new _ _)
 have HND:=zak hnd
 have HBB:=zak hb
 have HDD:=zak hd
 have HM:=zak hM
 have HNM:=zak hnm
 have HNR:=zak hnr
 have hn7:n≤7:=by omega
 have hnb:R.n≤100000:=by omega
 obtain⟨P,hP⟩:∃ P,P=zli w0 G p (rGoS T M) (rGoL T M):= ⟨_,rfl⟩
 have HP:=zak hP
 rw[← hP]
 have HLB:=zak hl
 have HML:=zak hMl
 have HMS:=zak hMs
 have HP2:Hid (P=zli w0 G p (rEnds T 0 []) []):= zak (by
  rw[hP];unfold rGoS rGoL
  simp[hk,hq])
 have HK:=zak hk
 clear hk
 clear hMs
 clear h hnd hb hd hM hP hnm hnr hl hMl
 unfold msV at H1 ⊢
 go_enter Try.func44,Try.ntmps44
 go_upto_region 1 with fail
 refine zcn (P:=fun W1=>RM w0 G p (rclL T R) (⟨W.heap.size,72,(msV M A n c).toList⟩ :: ks) rs W1) (by exact H1.out) (fun W1 h1=>?_)
 obtain⟨g,hg⟩:∃ g,g=W.heap.size:=⟨_,rfl⟩
 rw[← hg] at h1 ⊢
 clear H1 hg
 have H1:=zak h1
 have z1:=h1.lt
 have q:Blk W1 g 72 (msV M A n c):= h1.k0
 have zg:=q.lt
 have hgp:g≠p:=(h1.keep ⟨g,72,(msV M A n c).toList⟩ (by simp)).1
 have q0:W1.cell? ⟨g,0,none⟩=some (.int .i64 12):= by rw[← HK.out];exact q.cell 0 rfl
 have b15:W1.cell? ⟨p,15,none⟩=some (.bool true):= by rw[← hq];exact h1.blk.cell 15 rfl
 clear h1 q
 go_wp2_with fail
 refine (zlq T R 0 none 0 0 [] W1 H1.out.rnil (by simp) (by simp)).mono ?_
 rintro e W2 ⟨rfl,A',c',h2⟩
 have HF:=zak (zll (T:=rEnds T 0 []) (R:={ R with A2:=A',n2:=0,c2:=c' }) h2 (by simp;exact .inr (.inr HBB.out)) (by simp[rEnds]))
 clear h2
 go_wp2_with fail
 rw[HP2.out]
 exact HF.out
theorem zm0 (T:RCli) (R:RR) (M:Ms) (A:Option Addr) (n c:Nat) (W:World) (h:RM w0 G p (rclL T R) ks rs W) (hnd:1≤T.nd∧T.nd≤127) (hb:⟨R.A,R.n,R.c,T.b⟩ ∈ rs) (hd:⟨R.A2,R.n2,R.c2,T.data⟩ ∈ rs) (hM:⟨A,n,c,M.data⟩ ∈ rs) (hl:T.b.length≤100000) (hMl:M.data.length≤7) (hMs:MsB M) (hhb:0≤T.ha∧T.ha≤90000) (hnx:0≤T.nx∧T.nx≤1001) (hk:M.kind=12) (hq:T.qk=false) :
 Calls Try.prog 44 #[.pointer (some ⟨p,0,none⟩),.agg (msV M A n c)] W (zli w0 G p (rGoS T M) (rGoL T M)):= by
 have hnm:n=M.data.length:=h.rn hM
 have hnr:R.n=T.b.length:=h.rn hb
 have H1:Hid (RM w0 G p (rclL T R) (⟨W.heap.size,72,(msV M A n c).toList⟩ :: ks) rs (W.alloc (.cells (msV M A n c) 72))):= zak (h.new _ _)
 have HND:=zak hnd
 have HBB:=zak hb
 have HDD:=zak hd
 have HM:=zak hM
 have HNM:=zak hnm
 have HNR:=zak hnr
 have hn7:n≤7:=by omega
 have hnb:R.n≤100000:=by omega
 obtain⟨P,hP⟩:∃ P,P=zli w0 G p (rGoS T M) (rGoL T M):= ⟨_,rfl⟩
 have HP:=zak hP
 rw[← hP]
 have HLB:=zak hl
 have HML:=zak hMl
 have HMS:=zak hMs
 have HP2:Hid (P=zli w0 G p (rSegS T) (rSegL T)):= zak (by
  rw[hP];unfold rGoS rGoL
  simp[hk,hq])
 have HK:=zak hk
 clear hk
 clear hMs
 clear h hnd hb hd hM hP hnm hnr hl hMl
 unfold msV at H1 ⊢
 go_enter Try.func44,Try.ntmps44
 go_upto_region 1 with fail
 refine zcn (P:=fun W1=>RM w0 G p (rclL T R) (⟨W.heap.size,72,(msV M A n c).toList⟩ :: ks) rs W1) (by exact H1.out) (fun W1 h1=>?_)
 obtain⟨g,hg⟩:∃ g,g=W.heap.size:=⟨_,rfl⟩
 rw[← hg] at h1 ⊢
 clear H1 hg
 have H1:=zak h1
 have z1:=h1.lt
 have q:Blk W1 g 72 (msV M A n c):= h1.k0
 have zg:=q.lt
 have hgp:g≠p:=(h1.keep ⟨g,72,(msV M A n c).toList⟩ (by simp)).1
 have q0:W1.cell? ⟨g,0,none⟩=some (.int .i64 12):= by rw[← HK.out];exact q.cell 0 rfl
 have b15:W1.cell? ⟨p,15,none⟩=some (.bool false):= by rw[← hq];exact h1.blk.cell 15 rfl
 clear h1 q
 go_wp2_with fail
 refine (zmj T R W1 H1.out HND.out HBB.out HDD.out (by have:=HLB.out;omega)).mono ?_
 rintro e W2 hR
 obtain⟨As,ns,cs,rfl⟩:= hR.shape
 have HR:=zak hR
 clear hR
 go_wp2_with fail
 rw[HP2.out]
 exact HR.out
theorem zm1 (T:RCli) (R:RR) (M:Ms) (A:Option Addr) (n c:Nat) (W:World) (h:RM w0 G p (rclL T R) ks rs W) (hnd:1≤T.nd∧T.nd≤127) (hb:⟨R.A,R.n,R.c,T.b⟩ ∈ rs) (hd:⟨R.A2,R.n2,R.c2,T.data⟩ ∈ rs) (hM:⟨A,n,c,M.data⟩ ∈ rs) (hl:T.b.length≤100000) (hMl:M.data.length≤7) (hMs:MsB M) (hhb:0≤T.ha∧T.ha≤90000) (hnx:0≤T.nx∧T.nx≤1001) (hk:M.kind=13) (hq:T.la=true) :
 Calls Try.prog 44 #[.pointer (some ⟨p,0,none⟩),.agg (msV M A n c)] W (zli w0 G p (rGoS T M) (rGoL T M)):= by
 have hnm:n=M.data.length:=h.rn hM
 have hnr:R.n=T.b.length:=h.rn hb
 have H1:Hid (RM w0 G p (rclL T R) (⟨W.heap.size,72,(msV M A n c).toList⟩ :: ks) rs (W.alloc (.cells (msV M A n c) 72))):= zak (h.new _ _)
 have HND:=zak hnd
 have HBB:=zak hb
 have HDD:=zak hd
 have HM:=zak hM
 have HNM:=zak hnm
 have HNR:=zak hnr
 have hn7:n≤7:=by omega
 have hnb:R.n≤100000:=by omega
 obtain⟨P,hP⟩:∃ P,P=zli w0 G p (rGoS T M) (rGoL T M):= ⟨_,rfl⟩
 have HP:=zak hP
 rw[← hP]
 have HLB:=zak hl
 have HML:=zak hMl
 have HMS:=zak hMs
 have HP2:Hid (P=zli w0 G p (rEnds T 0 []) []):= zak (by
  rw[hP];unfold rGoS rGoL
  simp[hk,hq])
 have HK:=zak hk
 clear hk
 clear hMs
 clear h hnd hb hd hM hP hnm hnr hl hMl
 unfold msV at H1 ⊢
 go_enter Try.func44,Try.ntmps44
 go_upto_region 1 with fail
 refine zcn (P:=fun W1=>RM w0 G p (rclL T R) (⟨W.heap.size,72,(msV M A n c).toList⟩ :: ks) rs W1) (by exact H1.out) (fun W1 h1=>?_)
 obtain⟨g,hg⟩:∃ g,g=W.heap.size:=⟨_,rfl⟩
 rw[← hg] at h1 ⊢
 clear H1 hg
 have H1:=zak h1
 have z1:=h1.lt
 have q:Blk W1 g 72 (msV M A n c):= h1.k0
 have zg:=q.lt
 have hgp:g≠p:=(h1.keep ⟨g,72,(msV M A n c).toList⟩ (by simp)).1
 have q0:W1.cell? ⟨g,0,none⟩=some (.int .i64 13):= by rw[← HK.out];exact q.cell 0 rfl
 have b8:W1.cell? ⟨p,8,none⟩=some (.bool true):= by rw[← hq];exact h1.blk.cell 8 rfl
 clear h1 q
 go_wp2_with fail
 refine (zlq T R 0 none 0 0 [] W1 H1.out.rnil (by simp) (by simp)).mono ?_
 rintro e W2 ⟨rfl,A',c',h2⟩
 have HF:=zak (zll (T:=rEnds T 0 []) (R:={ R with A2:=A',n2:=0,c2:=c' }) h2 (by simp;exact .inr (.inr HBB.out)) (by simp[rEnds]))
 clear h2
 go_wp2_with fail
 rw[HP2.out]
 exact HF.out
theorem zm2 (T:RCli) (R:RR) (M:Ms) (A:Option Addr) (n c:Nat) (W:World) (h:RM w0 G p (rclL T R) ks rs W) (hnd:1≤T.nd∧T.nd≤127) (hb:⟨R.A,R.n,R.c,T.b⟩ ∈ rs) (hd:⟨R.A2,R.n2,R.c2,T.data⟩ ∈ rs) (hM:⟨A,n,c,M.data⟩ ∈ rs) (hl:T.b.length≤100000) (hMl:M.data.length≤7) (hMs:MsB M) (hhb:0≤T.ha∧T.ha≤90000) (hnx:0≤T.nx∧T.nx≤1001) (hk:M.kind=13) (hq:T.la=false) :
 Calls Try.prog 44 #[.pointer (some ⟨p,0,none⟩),.agg (msV M A n c)] W (zli w0 G p (rGoS T M) (rGoL T M)):= by
 have hnm:n=M.data.length:=h.rn hM
 have hnr:R.n=T.b.length:=h.rn hb
 have H1:Hid (RM w0 G p (rclL T R) (⟨W.heap.size,72,(msV M A n c).toList⟩ :: ks) rs (W.alloc (.cells (msV M A n c) 72))):= zak (h.new _ _)
 have HND:=zak hnd
 have HBB:=zak hb
 have HDD:=zak hd
 have HM:=zak hM
 have HNM:=zak hnm
 have HNR:=zak hnr
 have hn7:n≤7:=by omega
 have hnb:R.n≤100000:=by omega
 obtain⟨P,hP⟩:∃ P,P=zli w0 G p (rGoS T M) (rGoL T M):= ⟨_,rfl⟩
 have HP:=zak hP
 rw[← hP]
 have HLB:=zak hl
 have HML:=zak hMl
 have HMS:=zak hMs
 have HP2:Hid (P=zli w0 G p (rSegS { T with tg:=!T.tg }) (rSegL { T with tg:=!T.tg })):= zak (by
  rw[hP];unfold rGoS rGoL
  simp[hk,hq])
 have HK:=zak hk
 clear hk
 clear hMs
 clear h hnd hb hd hM hP hnm hnr hl hMl
 unfold msV at H1 ⊢
 go_enter Try.func44,Try.ntmps44
 go_upto_region 1 with fail
 refine zcn (P:=fun W1=>RM w0 G p (rclL T R) (⟨W.heap.size,72,(msV M A n c).toList⟩ :: ks) rs W1) (by exact H1.out) (fun W1 h1=>?_)
 obtain⟨g,hg⟩:∃ g,g=W.heap.size:=⟨_,rfl⟩
 rw[← hg] at h1 ⊢
 clear H1 hg
 have H1:=zak h1
 have z1:=h1.lt
 have q:Blk W1 g 72 (msV M A n c):= h1.k0
 have zg:=q.lt
 have hgp:g≠p:=(h1.keep ⟨g,72,(msV M A n c).toList⟩ (by simp)).1
 have q0:W1.cell? ⟨g,0,none⟩=some (.int .i64 13):= by rw[← HK.out];exact q.cell 0 rfl
 have b8:W1.cell? ⟨p,8,none⟩=some (.bool false):= by rw[← hq];exact h1.blk.cell 8 rfl
 have b7:W1.cell? ⟨p,7,none⟩=some (.bool T.tg):= h1.blk.cell 7 rfl
 have f7:=h1.blk.frozen 7
 have H2:Hid (RM w0 G p (rclL { T with tg:=!T.tg } R) (⟨g,72,(msV M A n c).toList⟩ :: ks) rs (W1.setCell ⟨p,7,none⟩ (.bool (!T.tg)))):= zak (h1.set 7 _)
 clear h1 q
 go_wp2_with fail
 refine (zmj { T with tg:=!T.tg } R _ H2.out HND.out HBB.out HDD.out (by have:=HLB.out;show T.b.length≤_;omega)).mono ?_
 rintro e W2 hR
 obtain⟨As,ns,cs,rfl⟩:= hR.shape
 have HR:=zak hR
 clear hR
 go_wp2_with fail
 rw[HP2.out]
 exact HR.out
theorem zm3 (T:RCli) (R:RR) (M:Ms) (A:Option Addr) (n c:Nat) (W:World) (h:RM w0 G p (rclL T R) ks rs W) (hnd:1≤T.nd∧T.nd≤127) (hb:⟨R.A,R.n,R.c,T.b⟩ ∈ rs) (hd:⟨R.A2,R.n2,R.c2,T.data⟩ ∈ rs) (hM:⟨A,n,c,M.data⟩ ∈ rs) (hl:T.b.length≤100000) (hMl:M.data.length≤7) (hMs:MsB M) (hhb:0≤T.ha∧T.ha≤90000) (hnx:0≤T.nx∧T.nx≤1001) (hk:M.kind=14) :
 Calls Try.prog 44 #[.pointer (some ⟨p,0,none⟩),.agg (msV M A n c)] W (zli w0 G p (rGoS T M) (rGoL T M)):= by
 have hnm:n=M.data.length:=h.rn hM
 have hnr:R.n=T.b.length:=h.rn hb
 have H1:Hid (RM w0 G p (rclL T R) (⟨W.heap.size,72,(msV M A n c).toList⟩ :: ks) rs (W.alloc (.cells (msV M A n c) 72))):= zak (h.new _ _)
 have HND:=zak hnd
 have HBB:=zak hb
 have HDD:=zak hd
 have HM:=zak hM
 have HNM:=zak hnm
 have HNR:=zak hnr
 have hn7:n≤7:=by omega
 have hnb:R.n≤100000:=by omega
 obtain⟨P,hP⟩:∃ P,P=zli w0 G p (rGoS T M) (rGoL T M):= ⟨_,rfl⟩
 have HP:=zak hP
 rw[← hP]
 have HLB:=zak hl
 have HML:=zak hMl
 have HMS:=zak hMs
 have HP2:Hid (P=zli w0 G p (rUpS T M) (rUpL T M)):= zak (by
  rw[hP];unfold rGoS rGoL
  simp[hk])
 have HK:=zak hk
 clear hk
 clear hMs
 clear h hnd hb hd hM hP hnm hnr hl hMl
 unfold msV at H1 ⊢
 go_enter Try.func44,Try.ntmps44
 go_upto_region 1 with fail
 refine zcn (P:=fun W1=>RM w0 G p (rclL T R) (⟨W.heap.size,72,(msV M A n c).toList⟩ :: ks) rs W1) (by exact H1.out) (fun W1 h1=>?_)
 obtain⟨g,hg⟩:∃ g,g=W.heap.size:=⟨_,rfl⟩
 rw[← hg] at h1 ⊢
 clear H1 hg
 have H1:=zak h1
 have z1:=h1.lt
 have q:Blk W1 g 72 (msV M A n c):= h1.k0
 have zg:=q.lt
 have hgp:g≠p:=(h1.keep ⟨g,72,(msV M A n c).toList⟩ (by simp)).1
 have q0:W1.cell? ⟨g,0,none⟩=some (.int .i64 14):= by rw[← HK.out];exact q.cell 0 rfl
 have HUP:=zak (zmr T R M A n c W1 H1.out HND.out HBB.out HDD.out HM.out HLB.out HML.out HMS.out.size (.inl HK.out))
 unfold msV at HUP
 have q1:Blk W1 g 72 #[.int .i64 M.kind,.int .i64 M.ix,.int .i64 M.sub,.bool M.tg,.bool M.la,.bool M.cr,.bool M.sz,.int .u32 (M.size:Nat),.int .u32 (M.code:Nat),.slice A n c,.int .i64 M.sq,.int .i64 M.bl,.int .i64 M.em,.int .u16 (M.sum:Nat)]:= q
 rw[HK.out] at q1 HUP
 obtain⟨q1_c0,q1_c1,q1_c2,q1_c3,q1_c4,q1_c5,q1_c6,q1_c7,q1_c8,q1_c9,q1_c10,q1_c11,q1_c12,q1_c13⟩:= zbs q1
 have q1_f:=q1.frozen
 clear h1 q q0
 go_wp2_with fail
 refine HUP.out.mono ?_
 rintro e W2 hR
 obtain⟨As,ns,cs,rfl⟩:= hR.shape
 have HR:=zak hR
 clear hR
 go_wp2_with fail
 rw[HP2.out]
 exact HR.out
theorem zm4 (T:RCli) (R:RR) (M:Ms) (A:Option Addr) (n c:Nat) (W:World) (h:RM w0 G p (rclL T R) ks rs W) (hnd:1≤T.nd∧T.nd≤127) (hb:⟨R.A,R.n,R.c,T.b⟩ ∈ rs) (hd:⟨R.A2,R.n2,R.c2,T.data⟩ ∈ rs) (hM:⟨A,n,c,M.data⟩ ∈ rs) (hl:T.b.length≤100000) (hMl:M.data.length≤7) (hMs:MsB M) (hhb:0≤T.ha∧T.ha≤90000) (hnx:0≤T.nx∧T.nx≤1001) (hk:M.kind=15) :
 Calls Try.prog 44 #[.pointer (some ⟨p,0,none⟩),.agg (msV M A n c)] W (zli w0 G p (rGoS T M) (rGoL T M)):= by
 have hnm:n=M.data.length:=h.rn hM
 have hnr:R.n=T.b.length:=h.rn hb
 have H1:Hid (RM w0 G p (rclL T R) (⟨W.heap.size,72,(msV M A n c).toList⟩ :: ks) rs (W.alloc (.cells (msV M A n c) 72))):= zak (h.new _ _)
 have HND:=zak hnd
 have HBB:=zak hb
 have HDD:=zak hd
 have HM:=zak hM
 have HNM:=zak hnm
 have HNR:=zak hnr
 have hn7:n≤7:=by omega
 have hnb:R.n≤100000:=by omega
 obtain⟨P,hP⟩:∃ P,P=zli w0 G p (rGoS T M) (rGoL T M):= ⟨_,rfl⟩
 have HP:=zak hP
 rw[← hP]
 have HLB:=zak hl
 have HML:=zak hMl
 have HMS:=zak hMs
 have HP2:Hid (P=zli w0 G p (rUpS T M) (rUpL T M)):= zak (by
  rw[hP];unfold rGoS rGoL
  simp[hk])
 have HK:=zak hk
 clear hk
 clear hMs
 clear h hnd hb hd hM hP hnm hnr hl hMl
 unfold msV at H1 ⊢
 go_enter Try.func44,Try.ntmps44
 go_upto_region 1 with fail
 refine zcn (P:=fun W1=>RM w0 G p (rclL T R) (⟨W.heap.size,72,(msV M A n c).toList⟩ :: ks) rs W1) (by exact H1.out) (fun W1 h1=>?_)
 obtain⟨g,hg⟩:∃ g,g=W.heap.size:=⟨_,rfl⟩
 rw[← hg] at h1 ⊢
 clear H1 hg
 have H1:=zak h1
 have z1:=h1.lt
 have q:Blk W1 g 72 (msV M A n c):= h1.k0
 have zg:=q.lt
 have hgp:g≠p:=(h1.keep ⟨g,72,(msV M A n c).toList⟩ (by simp)).1
 have q0:W1.cell? ⟨g,0,none⟩=some (.int .i64 15):= by rw[← HK.out];exact q.cell 0 rfl
 have HUP:=zak (zmr T R M A n c W1 H1.out HND.out HBB.out HDD.out HM.out HLB.out HML.out HMS.out.size (.inr HK.out))
 unfold msV at HUP
 have q1:Blk W1 g 72 #[.int .i64 M.kind,.int .i64 M.ix,.int .i64 M.sub,.bool M.tg,.bool M.la,.bool M.cr,.bool M.sz,.int .u32 (M.size:Nat),.int .u32 (M.code:Nat),.slice A n c,.int .i64 M.sq,.int .i64 M.bl,.int .i64 M.em,.int .u16 (M.sum:Nat)]:= q
 rw[HK.out] at q1 HUP
 obtain⟨q1_c0,q1_c1,q1_c2,q1_c3,q1_c4,q1_c5,q1_c6,q1_c7,q1_c8,q1_c9,q1_c10,q1_c11,q1_c12,q1_c13⟩:= zbs q1
 have q1_f:=q1.frozen
 clear h1 q q0
 go_wp2_with fail
 refine HUP.out.mono ?_
 rintro e W2 hR
 obtain⟨As,ns,cs,rfl⟩:= hR.shape
 have HR:=zak hR
 clear hR
 go_wp2_with fail
 rw[HP2.out]
 exact HR.out
theorem zm5 (T:RCli) (R:RR) (M:Ms) (A:Option Addr) (n c:Nat) (W:World) (h:RM w0 G p (rclL T R) ks rs W) (hnd:1≤T.nd∧T.nd≤127) (hb:⟨R.A,R.n,R.c,T.b⟩ ∈ rs) (hd:⟨R.A2,R.n2,R.c2,T.data⟩ ∈ rs) (hM:⟨A,n,c,M.data⟩ ∈ rs) (hl:T.b.length≤100000) (hMl:M.data.length≤7) (hMs:MsB M) (hhb:0≤T.ha∧T.ha≤90000) (hnx:0≤T.nx∧T.nx≤1001) (hk:M.kind=20) :
 Calls Try.prog 44 #[.pointer (some ⟨p,0,none⟩),.agg (msV M A n c)] W (zli w0 G p (rGoS T M) (rGoL T M)):= by
 have hnm:n=M.data.length:=h.rn hM
 have hnr:R.n=T.b.length:=h.rn hb
 have H1:Hid (RM w0 G p (rclL T R) (⟨W.heap.size,72,(msV M A n c).toList⟩ :: ks) rs (W.alloc (.cells (msV M A n c) 72))):= zak (h.new _ _)
 have HND:=zak hnd
 have HBB:=zak hb
 have HDD:=zak hd
 have HM:=zak hM
 have HNM:=zak hnm
 have HNR:=zak hnr
 have hn7:n≤7:=by omega
 have hnb:R.n≤100000:=by omega
 obtain⟨P,hP⟩:∃ P,P=zli w0 G p (rGoS T M) (rGoL T M):= ⟨_,rfl⟩
 have HP:=zak hP
 rw[← hP]
 have HLB:=zak hl
 have HML:=zak hMl
 have HMS:=zak hMs
 have HP2:Hid (P=zli w0 G p (rEndS T M) (rEndL T M)):= zak (by
  rw[hP];unfold rGoS rGoL
  simp[hk])
 have HK:=zak hk
 clear hk
 clear hMs
 clear h hnd hb hd hM hP hnm hnr hl hMl
 unfold msV at H1 ⊢
 go_enter Try.func44,Try.ntmps44
 go_upto_region 1 with fail
 refine zcn (P:=fun W1=>RM w0 G p (rclL T R) (⟨W.heap.size,72,(msV M A n c).toList⟩ :: ks) rs W1) (by exact H1.out) (fun W1 h1=>?_)
 obtain⟨g,hg⟩:∃ g,g=W.heap.size:=⟨_,rfl⟩
 rw[← hg] at h1 ⊢
 clear H1 hg
 have H1:=zak h1
 have z1:=h1.lt
 have q:Blk W1 g 72 (msV M A n c):= h1.k0
 have zg:=q.lt
 have hgp:g≠p:=(h1.keep ⟨g,72,(msV M A n c).toList⟩ (by simp)).1
 have q0:W1.cell? ⟨g,0,none⟩=some (.int .i64 20):= by rw[← HK.out];exact q.cell 0 rfl
 have HUP:=zak (zmy T R M A n c W1 H1.out HND.out HBB.out HDD.out HM.out HLB.out HML.out HMS.out.em HMS.out.sum)
 unfold msV at HUP
 have q1:Blk W1 g 72 #[.int .i64 M.kind,.int .i64 M.ix,.int .i64 M.sub,.bool M.tg,.bool M.la,.bool M.cr,.bool M.sz,.int .u32 (M.size:Nat),.int .u32 (M.code:Nat),.slice A n c,.int .i64 M.sq,.int .i64 M.bl,.int .i64 M.em,.int .u16 (M.sum:Nat)]:= q
 rw[HK.out] at q1 HUP
 obtain⟨q1_c0,q1_c1,q1_c2,q1_c3,q1_c4,q1_c5,q1_c6,q1_c7,q1_c8,q1_c9,q1_c10,q1_c11,q1_c12,q1_c13⟩:= zbs q1
 have q1_f:=q1.frozen
 clear h1 q q0
 go_wp2_with fail
 refine HUP.out.mono ?_
 rintro e W2 hR
 obtain⟨As,ns,cs,rfl⟩:= hR.shape
 have HR:=zak hR
 clear hR
 go_wp2_with fail
 rw[HP2.out]
 exact HR.out
theorem zm6 (T:RCli) (R:RR) (M:Ms) (A:Option Addr) (n c:Nat) (W:World) (h:RM w0 G p (rclL T R) ks rs W) (hnd:1≤T.nd∧T.nd≤127) (hb:⟨R.A,R.n,R.c,T.b⟩ ∈ rs) (hd:⟨R.A2,R.n2,R.c2,T.data⟩ ∈ rs) (hM:⟨A,n,c,M.data⟩ ∈ rs) (hl:T.b.length≤100000) (hMl:M.data.length≤7) (hMs:MsB M) (hhb:0≤T.ha∧T.ha≤90000) (hnx:0≤T.nx∧T.nx≤1001) (hk:M.kind=21) :
 Calls Try.prog 44 #[.pointer (some ⟨p,0,none⟩),.agg (msV M A n c)] W (zli w0 G p (rGoS T M) (rGoL T M)):= by
 have hnm:n=M.data.length:=h.rn hM
 have hnr:R.n=T.b.length:=h.rn hb
 have H1:Hid (RM w0 G p (rclL T R) (⟨W.heap.size,72,(msV M A n c).toList⟩ :: ks) rs (W.alloc (.cells (msV M A n c) 72))):= zak (h.new _ _)
 have HND:=zak hnd
 have HBB:=zak hb
 have HDD:=zak hd
 have HM:=zak hM
 have HNM:=zak hnm
 have HNR:=zak hnr
 have hn7:n≤7:=by omega
 have hnb:R.n≤100000:=by omega
 obtain⟨P,hP⟩:∃ P,P=zli w0 G p (rGoS T M) (rGoL T M):= ⟨_,rfl⟩
 have HP:=zak hP
 rw[← hP]
 have HLB:=zak hl
 have HML:=zak hMl
 have HMS:=zak hMs
 have HP2:Hid (P=zli w0 G p (rTkS T M) (rTkL T M)):= zak (by
  rw[hP];unfold rGoS rGoL
  simp[hk])
 have HK:=zak hk
 clear hk
 clear hMs
 clear h hnd hb hd hM hP hnm hnr hl hMl
 unfold msV at H1 ⊢
 go_enter Try.func44,Try.ntmps44
 go_upto_region 1 with fail
 refine zcn (P:=fun W1=>RM w0 G p (rclL T R) (⟨W.heap.size,72,(msV M A n c).toList⟩ :: ks) rs W1) (by exact H1.out) (fun W1 h1=>?_)
 obtain⟨g,hg⟩:∃ g,g=W.heap.size:=⟨_,rfl⟩
 rw[← hg] at h1 ⊢
 clear H1 hg
 have H1:=zak h1
 have z1:=h1.lt
 have q:Blk W1 g 72 (msV M A n c):= h1.k0
 have zg:=q.lt
 have hgp:g≠p:=(h1.keep ⟨g,72,(msV M A n c).toList⟩ (by simp)).1
 have q0:W1.cell? ⟨g,0,none⟩=some (.int .i64 21):= by rw[← HK.out];exact q.cell 0 rfl
 have HUP:=zak (zmx T R M A n c W1 H1.out HND.out HBB.out HDD.out HM.out HLB.out HML.out hnx)
 unfold msV at HUP
 have q1:Blk W1 g 72 #[.int .i64 M.kind,.int .i64 M.ix,.int .i64 M.sub,.bool M.tg,.bool M.la,.bool M.cr,.bool M.sz,.int .u32 (M.size:Nat),.int .u32 (M.code:Nat),.slice A n c,.int .i64 M.sq,.int .i64 M.bl,.int .i64 M.em,.int .u16 (M.sum:Nat)]:= q
 rw[HK.out] at q1 HUP
 obtain⟨q1_c0,q1_c1,q1_c2,q1_c3,q1_c4,q1_c5,q1_c6,q1_c7,q1_c8,q1_c9,q1_c10,q1_c11,q1_c12,q1_c13⟩:= zbs q1
 have q1_f:=q1.frozen
 clear h1 q q0
 go_wp2_with fail
 refine HUP.out.mono ?_
 rintro e W2 hR
 obtain⟨As,ns,cs,rfl⟩:= hR.shape
 have HR:=zak hR
 clear hR
 go_wp2_with fail
 rw[HP2.out]
 exact HR.out
theorem zm7 (T:RCli) (R:RR) (M:Ms) (A:Option Addr) (n c:Nat) (W:World) (h:RM w0 G p (rclL T R) ks rs W) (hnd:1≤T.nd∧T.nd≤127) (hb:⟨R.A,R.n,R.c,T.b⟩ ∈ rs) (hd:⟨R.A2,R.n2,R.c2,T.data⟩ ∈ rs) (hM:⟨A,n,c,M.data⟩ ∈ rs) (hl:T.b.length≤100000) (hMl:M.data.length≤7) (hMs:MsB M) (hhb:0≤T.ha∧T.ha≤90000) (hnx:0≤T.nx∧T.nx≤1001) (hk:M.kind=16) :
 Calls Try.prog 44 #[.pointer (some ⟨p,0,none⟩),.agg (msV M A n c)] W (zli w0 G p (rGoS T M) (rGoL T M)):= by
 have hnm:n=M.data.length:=h.rn hM
 have hnr:R.n=T.b.length:=h.rn hb
 have H1:Hid (RM w0 G p (rclL T R) (⟨W.heap.size,72,(msV M A n c).toList⟩ :: ks) rs (W.alloc (.cells (msV M A n c) 72))):= zak (h.new _ _)
 have HND:=zak hnd
 have HBB:=zak hb
 have HDD:=zak hd
 have HM:=zak hM
 have HNM:=zak hnm
 have HNR:=zak hnr
 have hn7:n≤7:=by omega
 have hnb:R.n≤100000:=by omega
 obtain⟨P,hP⟩:∃ P,P=zli w0 G p (rGoS T M) (rGoL T M):= ⟨_,rfl⟩
 have HP:=zak hP
 rw[← hP]
 have HLB:=zak hl
 have HML:=zak hMl
 have HMS:=zak hMs
 have HP2:Hid (P=zli w0 G p (rRowS T M.bl) (rRowL T M.bl)):= zak (by
  rw[hP];unfold rGoS rGoL
  simp[hk])
 have HK:=zak hk
 clear hk
 clear hMs
 clear h hnd hb hd hM hP hnm hnr hl hMl
 unfold msV at H1 ⊢
 go_enter Try.func44,Try.ntmps44
 go_upto_region 1 with fail
 refine zcn (P:=fun W1=>RM w0 G p (rclL T R) (⟨W.heap.size,72,(msV M A n c).toList⟩ :: ks) rs W1) (by exact H1.out) (fun W1 h1=>?_)
 obtain⟨g,hg⟩:∃ g,g=W.heap.size:=⟨_,rfl⟩
 rw[← hg] at h1 ⊢
 clear H1 hg
 have H1:=zak h1
 have z1:=h1.lt
 have q:Blk W1 g 72 (msV M A n c):= h1.k0
 have zg:=q.lt
 have hgp:g≠p:=(h1.keep ⟨g,72,(msV M A n c).toList⟩ (by simp)).1
 have q0:W1.cell? ⟨g,0,none⟩=some (.int .i64 16):= by rw[← HK.out];exact q.cell 0 rfl
 have q11:W1.cell? ⟨g,11,none⟩=some (.int .i64 M.bl):= q.cell 11 rfl
 clear h1 q
 go_wp2_with fail
 refine (zmn T R M.bl W1 H1.out HND.out HBB.out HDD.out HLB.out ⟨hhb.1,by omega⟩ HMS.out.bl).mono ?_
 rintro e W2 hR
 obtain⟨As,ns,cs,rfl⟩:= hR.shape
 have HR:=zak hR
 clear hR
 go_wp2_with fail
 rw[HP2.out]
 exact HR.out
theorem zm8 (T:RCli) (R:RR) (M:Ms) (A:Option Addr) (n c:Nat) (W:World) (h:RM w0 G p (rclL T R) ks rs W) (hnd:1≤T.nd∧T.nd≤127) (hb:⟨R.A,R.n,R.c,T.b⟩ ∈ rs) (hd:⟨R.A2,R.n2,R.c2,T.data⟩ ∈ rs) (hM:⟨A,n,c,M.data⟩ ∈ rs) (hl:T.b.length≤100000) (hMl:M.data.length≤7) (hMs:MsB M) (hhb:0≤T.ha∧T.ha≤90000) (hnx:0≤T.nx∧T.nx≤1001) (hk:M.kind=18) :
 Calls Try.prog 44 #[.pointer (some ⟨p,0,none⟩),.agg (msV M A n c)] W (zli w0 G p (rGoS T M) (rGoL T M)):= by
 have hnm:n=M.data.length:=h.rn hM
 have hnr:R.n=T.b.length:=h.rn hb
 have H1:Hid (RM w0 G p (rclL T R) (⟨W.heap.size,72,(msV M A n c).toList⟩ :: ks) rs (W.alloc (.cells (msV M A n c) 72))):= zak (h.new _ _)
 have HND:=zak hnd
 have HBB:=zak hb
 have HDD:=zak hd
 have HM:=zak hM
 have HNM:=zak hnm
 have HNR:=zak hnr
 have hn7:n≤7:=by omega
 have hnb:R.n≤100000:=by omega
 obtain⟨P,hP⟩:∃ P,P=zli w0 G p (rGoS T M) (rGoL T M):= ⟨_,rfl⟩
 have HP:=zak hP
 rw[← hP]
 have HLB:=zak hl
 have HML:=zak hMl
 have HMS:=zak hMs
 have HP2:Hid (P=zli w0 G p (rEnds T 0 []) []):= zak (by
  rw[hP];unfold rGoS rGoL
  simp[hk])
 have HK:=zak hk
 clear hk
 clear hMs
 clear h hnd hb hd hM hP hnm hnr hl hMl
 unfold msV at H1 ⊢
 go_enter Try.func44,Try.ntmps44
 go_upto_region 1 with fail
 refine zcn (P:=fun W1=>RM w0 G p (rclL T R) (⟨W.heap.size,72,(msV M A n c).toList⟩ :: ks) rs W1) (by exact H1.out) (fun W1 h1=>?_)
 obtain⟨g,hg⟩:∃ g,g=W.heap.size:=⟨_,rfl⟩
 rw[← hg] at h1 ⊢
 clear H1 hg
 have H1:=zak h1
 have z1:=h1.lt
 have q:Blk W1 g 72 (msV M A n c):= h1.k0
 have zg:=q.lt
 have hgp:g≠p:=(h1.keep ⟨g,72,(msV M A n c).toList⟩ (by simp)).1
 have q0:W1.cell? ⟨g,0,none⟩=some (.int .i64 18):= by rw[← HK.out];exact q.cell 0 rfl
 clear h1 q
 go_wp2_with fail
 refine (zlq T R 0 none 0 0 [] W1 H1.out.rnil (by simp) (by simp)).mono ?_
 rintro e W2 ⟨rfl,A',c',h2⟩
 have HF:=zak (zll (T:=rEnds T 0 []) (R:={ R with A2:=A',n2:=0,c2:=c' }) h2 (by simp;exact .inr (.inr HBB.out)) (by simp[rEnds]))
 clear h2
 go_wp2_with fail
 rw[HP2.out]
 exact HF.out
theorem zm9 (T:RCli) (R:RR) (M:Ms) (A:Option Addr) (n c:Nat) (W:World) (h:RM w0 G p (rclL T R) ks rs W) (hnd:1≤T.nd∧T.nd≤127) (hb:⟨R.A,R.n,R.c,T.b⟩ ∈ rs) (hd:⟨R.A2,R.n2,R.c2,T.data⟩ ∈ rs) (hM:⟨A,n,c,M.data⟩ ∈ rs) (hl:T.b.length≤100000) (hMl:M.data.length≤7) (hMs:MsB M) (hhb:0≤T.ha∧T.ha≤90000) (hnx:0≤T.nx∧T.nx≤1001) (hk:M.kind=19) :
 Calls Try.prog 44 #[.pointer (some ⟨p,0,none⟩),.agg (msV M A n c)] W (zli w0 G p (rGoS T M) (rGoL T M)):= by
 have hnm:n=M.data.length:=h.rn hM
 have hnr:R.n=T.b.length:=h.rn hb
 have H1:Hid (RM w0 G p (rclL T R) (⟨W.heap.size,72,(msV M A n c).toList⟩ :: ks) rs (W.alloc (.cells (msV M A n c) 72))):= zak (h.new _ _)
 have HND:=zak hnd
 have HBB:=zak hb
 have HDD:=zak hd
 have HM:=zak hM
 have HNM:=zak hnm
 have HNR:=zak hnr
 have hn7:n≤7:=by omega
 have hnb:R.n≤100000:=by omega
 obtain⟨P,hP⟩:∃ P,P=zli w0 G p (rGoS T M) (rGoL T M):= ⟨_,rfl⟩
 have HP:=zak hP
 rw[← hP]
 have HLB:=zak hl
 have HML:=zak hMl
 have HMS:=zak hMs
 have HP2:Hid (P=zli w0 G p { T with sz:=M.sz,si:=M.size,cr:=M.cr,wk:=21 } (rSend T [busM])):= zak (by
  rw[hP];unfold rGoS rGoL
  simp[hk])
 have HK:=zak hk
 clear hk
 clear hMs
 clear h hnd hb hd hM hP hnm hnr hl hMl
 unfold msV at H1 ⊢
 go_enter Try.func44,Try.ntmps44
 go_upto_region 1 with fail
 refine zcn (P:=fun W1=>RM w0 G p (rclL T R) (⟨W.heap.size,72,(msV M A n c).toList⟩ :: ks) rs W1) (by exact H1.out) (fun W1 h1=>?_)
 obtain⟨g,hg⟩:∃ g,g=W.heap.size:=⟨_,rfl⟩
 rw[← hg] at h1 ⊢
 clear H1 hg
 have H1:=zak h1
 have z1:=h1.lt
 have q:Blk W1 g 72 (msV M A n c):= h1.k0
 have zg:=q.lt
 have hgp:g≠p:=(h1.keep ⟨g,72,(msV M A n c).toList⟩ (by simp)).1
 have q0:W1.cell? ⟨g,0,none⟩=some (.int .i64 19):= by rw[← HK.out];exact q.cell 0 rfl
 have q5:W1.cell? ⟨g,5,none⟩=some (.bool M.cr):= q.cell 5 rfl
 have q6:W1.cell? ⟨g,6,none⟩=some (.bool M.sz):= q.cell 6 rfl
 have q7:W1.cell? ⟨g,7,none⟩=some (.int .u32 (M.size:Nat)):= q.cell 7 rfl
 have b9:W1.cell? ⟨p,9,none⟩=some (.bool T.sz):= h1.blk.cell 9 rfl
 have b10:W1.cell? ⟨p,10,none⟩=some (.int .i64 T.si):= h1.blk.cell 10 rfl
 have b11:W1.cell? ⟨p,11,none⟩=some (.bool T.cr):= h1.blk.cell 11 rfl
 have b1:W1.cell? ⟨p,1,none⟩=some (.int .i64 T.wk):= h1.blk.cell 1 rfl
 have ff:=h1.blk.frozen
 have hsz:=HMS.out.size
 have hwz:IntKind.i64.wrap (M.size:Int)=(M.size:Int):= by unfold IntKind.wrap;simp[IntKind.signed,IntKind.bits];omega
 have HU:Hid (RM w0 G p (rclL { T with sz:=M.sz,si:=M.size,cr:=M.cr,wk:=21 } R) (⟨g,72,(msV M A n c).toList⟩ :: ks) rs _):= zak ((((h1.set 9 (.bool M.sz)).set 10 (.int .i64 (M.size:Nat))).set 11 (.bool M.cr)).set 1 (.int .i64 21))
 have HSU:=zak (zln (p:=p) T.nd busM none 0 0 _ (HU.out.blk.cell 0 rfl) HND.out rfl (Sl.nil _ _) ⟨Nat.zero_le _,Nat.zero_le _,Nat.zero_le _⟩)
 unfold msV busM at HSU
 clear h1 q hsz
 go_wp2_with fail
 refine HSU.out.mono ?_
 rintro e w2 ⟨As,ns,cs,ds,rfl,hO,hb⟩
 have HF:=zak (zlk (T:={ T with sz:=M.sz,si:=M.size,cr:=M.cr,wk:=21 }) (R:=R) (L:= [busM]) HU.out HBB.out HDD.out ⟨As,ns,cs,ds,rfl,hO,hb⟩)
 clear hO hb
 go_wp2_with fail
 rw[HP2.out]
 exact HF.out
theorem zna (T:RCli) (R:RR) (M:Ms) (A:Option Addr) (n c:Nat) (W:World) (h:RM w0 G p (rclL T R) ks rs W) (hnd:1≤T.nd∧T.nd≤127) (hb:⟨R.A,R.n,R.c,T.b⟩ ∈ rs) (hd:⟨R.A2,R.n2,R.c2,T.data⟩ ∈ rs) (hM:⟨A,n,c,M.data⟩ ∈ rs) (hl:T.b.length≤100000) (hMl:M.data.length≤7) (hMs:MsB M) (hhb:0≤T.ha∧T.ha≤90000) (hnx:0≤T.nx∧T.nx≤1001) (hk:M.kind=17) (hlt:T.ha+M.sq < btotal T.b) :
 Calls Try.prog 44 #[.pointer (some ⟨p,0,none⟩),.agg (msV M A n c)] W (zli w0 G p (rGoS T M) (rGoL T M)):= by
 have hnm:n=M.data.length:=h.rn hM
 have hnr:R.n=T.b.length:=h.rn hb
 have H1:Hid (RM w0 G p (rclL T R) (⟨W.heap.size,72,(msV M A n c).toList⟩ :: ks) rs (W.alloc (.cells (msV M A n c) 72))):= zak (h.new _ _)
 have HND:=zak hnd
 have HBB:=zak hb
 have HDD:=zak hd
 have HM:=zak hM
 have HNM:=zak hnm
 have HNR:=zak hnr
 have hn7:n≤7:=by omega
 have hnb:R.n≤100000:=by omega
 obtain⟨P,hP⟩:∃ P,P=zli w0 G p (rGoS T M) (rGoL T M):= ⟨_,rfl⟩
 have HP:=zak hP
 rw[← hP]
 have hsq:=hMs.sq
 obtain⟨ha,hha⟩:∃ ha,ha=T.ha+M.sq:=⟨_,rfl⟩
 have HHA:=zak hha
 have hha':=hha.symm
 have hhr:0≤ha∧ha≤91000:=by omega
 have hwa:IntKind.i64.wrap ha=ha:=by unfold IntKind.wrap;simp[IntKind.signed,IntKind.bits];omega
 obtain⟨tot,htot⟩:∃ tot,tot=btotal T.b:=⟨_,rfl⟩
 have HT:=zak htot
 have ht1:tot≤100000:=by rw[htot];unfold btotal;omega
 clear htot
 have hltn:ha < (tot:Int):= by rw[hha,HT.out];exact hlt
 clear hha
 have HLB:=zak hl
 have HML:=zak hMl
 have HMS:=zak hMs
 have HP2:Hid (P=zli w0 G p (rRowS { T with ha:=T.ha+M.sq } M.bl) (rRowL { T with ha:=T.ha+M.sq } M.bl)):= zak (by
  rw[hP];unfold rGoS rGoL
  simp[hk,hlt])
 have HK:=zak hk
 clear hk
 clear hMs
 clear h hnd hb hd hM hP hnm hnr hl hMl
 unfold msV at H1 ⊢
 go_enter Try.func44,Try.ntmps44
 go_upto_region 1 with fail
 refine zcn (P:=fun W1=>RM w0 G p (rclL T R) (⟨W.heap.size,72,(msV M A n c).toList⟩ :: ks) rs W1) (by exact H1.out) (fun W1 h1=>?_)
 obtain⟨g,hg⟩:∃ g,g=W.heap.size:=⟨_,rfl⟩
 rw[← hg] at h1 ⊢
 clear H1 hg
 have H1:=zak h1
 have z1:=h1.lt
 have q:Blk W1 g 72 (msV M A n c):= h1.k0
 have zg:=q.lt
 have hgp:g≠p:=(h1.keep ⟨g,72,(msV M A n c).toList⟩ (by simp)).1
 have q0:W1.cell? ⟨g,0,none⟩=some (.int .i64 17):= by rw[← HK.out];exact q.cell 0 rfl
 have q10:W1.cell? ⟨g,10,none⟩=some (.int .i64 M.sq):= q.cell 10 rfl
 have b12:W1.cell? ⟨p,12,none⟩=some (.int .i64 T.ha):= h1.blk.cell 12 rfl
 have f12:=h1.blk.frozen 12
 clear h1 q
 go_upto_region 19 with fail
 refine zaj (fun w'=>w'.cell? ⟨p,12,none⟩=some (.int .i64 T.ha)∧ w'.cell? ⟨g,10,none⟩=some (.int .i64 M.sq)) [0,1,2,3,4,5,6,7,8,9] (by kernel_rfl) ?hS1 (fun hHeld=>?rest1)
 case hS1=>((try dsimp only);exact⟨b12,q10⟩)
 case' rest1=>skip
 refine tkT 0 ?_
 try simp only[PqL,Act.put]
 refine tkT 1 ?_
 try simp only[PqL,Act.put]
 refine tkT 2 ?_
 try simp only[PqL,Act.put]
 refine tkT 3 ?_
 try simp only[PqL,Act.put]
 refine tkT 4 ?_
 try simp only[PqL,Act.put]
 refine tkT 5 ?_
 try simp only[PqL,Act.put]
 refine tkT 6 ?_
 try simp only[PqL,Act.put]
 refine tkT 7 ?_
 try simp only[PqL,Act.put]
 refine tkT 8 ?_
 try simp only[PqL,Act.put]
 refine tkT 9 ?_
 try simp only[PqL,Act.put]
 refine zah (i:=10) (o:=_) rfl (by kernel_rfl) (by kernel_rfl) (fun K hK=>?_)
 go_simp
 refine hK.out _ _ ?rest13
 case' rest13=>(clear hK K;try simp only[PqL,Act.put])
 refine zai (by kernel_rfl) ?_ _
 repeat (clear hHeld)
 have H2:Hid (RM w0 G p (rclL { T with ha:=ha } R) (⟨g,72,(msV M A n c).toList⟩ :: ks) rs (W1.drew.setCell ⟨p,12,none⟩ (.int .i64 ha))):= zak (H1.out.drew.set 12 _)
 go_upto_region 20 with fail
 refine zcn (P:=RM w0 G p (rclL { T with ha:=ha } R) (⟨g,72,(msV M A n c).toList⟩ :: ks) rs) H2.out (fun W2 h2=>?_)
 clear H1 H2 q10 b12 f12 z1 zg q0 hha'
 have H2:=zak h2
 have z2:=h2.lt
 have q:Blk W2 g 72 (msV M A n c):= h2.k0
 have zg:=q.lt
 have q11:W2.cell? ⟨g,11,none⟩=some (.int .i64 M.bl):= q.cell 11 rfl
 have b12:W2.cell? ⟨p,12,none⟩=some (.int .i64 ha):= h2.blk.cell 12 rfl
 clear h2 q
 refine wp_region_held_drew (S:=(fun w'=>(∀ qA:Addr,qA.block < (W2).heap.size→w'.cell? qA=(W2).cell? qA)∧ Below (W2).heap.size (W2) w')) (by kernel_rfl) ?hS15 (fun hHeld=>?rest15)
 case hS15=>((try dsimp only);(((try go_split_ands);refine zbn ?_;all_goals exact bl)))
 case' rest15=>skip
 iterate 5 (refine tkN ?_;try simp only[PqL,Act.put])
 refine wpAnyH_ready (rs:= [5]) (by kernel_rfl) (by simp) ?_
 refine AllReadyH.cons (o:=_) rfl (fun K hK=>?_) .nil
 go_simp
 refine (zmg (p:=p) _ R.A R.n R.c T.b (H2.out.drew.blk.cell 4 rfl) HNR.out (by omega)).mono ?_
 rintro e w3 ⟨rfl,hw⟩
 subst hw
 rw[← HT.out]
 refine hK.out _ _ ?hS23 (fun hHeld=>?rest23)
 case hS23=>((try dsimp only);(((try go_split_ands);refine zbn ?_;all_goals exact bl)))
 case' rest23=>(clear hK K;try simp only[PqL,Act.put])
 refine tkH 6 ?_
 try simp only[PqL,Act.put]
 refine wpAnyH_done (by kernel_rfl) ?_ _
 have hEnd:=hHeld.2
 repeat (clear hHeld)
 clear hEnd
 go_wp2_with fail
 refine (zmn { T with ha:=ha } R M.bl _ (H2.out.step bl) HND.out HBB.out HDD.out HLB.out ⟨hhr.1,by show ha≤_;omega⟩ HMS.out.bl).mono ?_
 rintro e W2 hR
 obtain⟨As,ns,cs,rfl⟩:= hR.shape
 have HR:=zak hR
 clear hR
 go_wp2_with fail
 rw[HP2.out,← HHA.out]
 exact HR.out
theorem znb (T:RCli) (R:RR) (M:Ms) (A:Option Addr) (n c:Nat) (W:World) (h:RM w0 G p (rclL T R) ks rs W) (hnd:1≤T.nd∧T.nd≤127) (hb:⟨R.A,R.n,R.c,T.b⟩ ∈ rs) (hd:⟨R.A2,R.n2,R.c2,T.data⟩ ∈ rs) (hM:⟨A,n,c,M.data⟩ ∈ rs) (hl:T.b.length≤100000) (hMl:M.data.length≤7) (hMs:MsB M) (hhb:0≤T.ha∧T.ha≤90000) (hnx:0≤T.nx∧T.nx≤1001) (hk:M.kind=17) (hlt: ¬ T.ha+M.sq < btotal T.b) :
 Calls Try.prog 44 #[.pointer (some ⟨p,0,none⟩),.agg (msV M A n c)] W (zli w0 G p (rGoS T M) (rGoL T M)):= by
 have hnm:n=M.data.length:=h.rn hM
 have hnr:R.n=T.b.length:=h.rn hb
 have H1:Hid (RM w0 G p (rclL T R) (⟨W.heap.size,72,(msV M A n c).toList⟩ :: ks) rs (W.alloc (.cells (msV M A n c) 72))):= zak (h.new _ _)
 have HND:=zak hnd
 have HBB:=zak hb
 have HDD:=zak hd
 have HM:=zak hM
 have HNM:=zak hnm
 have HNR:=zak hnr
 have hn7:n≤7:=by omega
 have hnb:R.n≤100000:=by omega
 obtain⟨P,hP⟩:∃ P,P=zli w0 G p (rGoS T M) (rGoL T M):= ⟨_,rfl⟩
 have HP:=zak hP
 rw[← hP]
 have hsq:=hMs.sq
 obtain⟨ha,hha⟩:∃ ha,ha=T.ha+M.sq:=⟨_,rfl⟩
 have HHA:=zak hha
 have hha':=hha.symm
 have hhr:0≤ha∧ha≤91000:=by omega
 have hwa:IntKind.i64.wrap ha=ha:=by unfold IntKind.wrap;simp[IntKind.signed,IntKind.bits];omega
 obtain⟨tot,htot⟩:∃ tot,tot=btotal T.b:=⟨_,rfl⟩
 have HT:=zak htot
 have ht1:tot≤100000:=by rw[htot];unfold btotal;omega
 clear htot
 have hltn: ¬ ha < (tot:Int):= by rw[hha,HT.out];exact hlt
 clear hha
 have HLB:=zak hl
 have HML:=zak hMl
 have HMS:=zak hMs
 have HP2:Hid (P=zli w0 G p { T with ha:=T.ha+M.sq,wk:=18 } (rSend T [bdeM (7 * (btotal T.b:Int) - T.b.length) (sum16L T.b)])):= zak (by
  rw[hP];unfold rGoS rGoL
  simp[hk,hlt])
 have HK:=zak hk
 clear hk
 clear hMs
 clear h hnd hb hd hM hP hnm hnr hl hMl
 unfold msV at H1 ⊢
 go_enter Try.func44,Try.ntmps44
 go_upto_region 1 with fail
 refine zcn (P:=fun W1=>RM w0 G p (rclL T R) (⟨W.heap.size,72,(msV M A n c).toList⟩ :: ks) rs W1) (by exact H1.out) (fun W1 h1=>?_)
 obtain⟨g,hg⟩:∃ g,g=W.heap.size:=⟨_,rfl⟩
 rw[← hg] at h1 ⊢
 clear H1 hg
 have H1:=zak h1
 have z1:=h1.lt
 have q:Blk W1 g 72 (msV M A n c):= h1.k0
 have zg:=q.lt
 have hgp:g≠p:=(h1.keep ⟨g,72,(msV M A n c).toList⟩ (by simp)).1
 have q0:W1.cell? ⟨g,0,none⟩=some (.int .i64 17):= by rw[← HK.out];exact q.cell 0 rfl
 have q10:W1.cell? ⟨g,10,none⟩=some (.int .i64 M.sq):= q.cell 10 rfl
 have b12:W1.cell? ⟨p,12,none⟩=some (.int .i64 T.ha):= h1.blk.cell 12 rfl
 have f12:=h1.blk.frozen 12
 clear h1 q
 go_upto_region 19 with fail
 refine zaj (fun w'=>w'.cell? ⟨p,12,none⟩=some (.int .i64 T.ha)∧ w'.cell? ⟨g,10,none⟩=some (.int .i64 M.sq)) [0,1,2,3,4,5,6,7,8,9] (by kernel_rfl) ?hS26 (fun hHeld=>?rest26)
 case hS26=>((try dsimp only);exact⟨b12,q10⟩)
 case' rest26=>skip
 refine tkT 0 ?_
 try simp only[PqL,Act.put]
 refine tkT 1 ?_
 try simp only[PqL,Act.put]
 refine tkT 2 ?_
 try simp only[PqL,Act.put]
 refine tkT 3 ?_
 try simp only[PqL,Act.put]
 refine tkT 4 ?_
 try simp only[PqL,Act.put]
 refine tkT 5 ?_
 try simp only[PqL,Act.put]
 refine tkT 6 ?_
 try simp only[PqL,Act.put]
 refine tkT 7 ?_
 try simp only[PqL,Act.put]
 refine tkT 8 ?_
 try simp only[PqL,Act.put]
 refine tkT 9 ?_
 try simp only[PqL,Act.put]
 refine zah (i:=10) (o:=_) rfl (by kernel_rfl) (by kernel_rfl) (fun K hK=>?_)
 go_simp
 refine hK.out _ _ ?rest38
 case' rest38=>(clear hK K;try simp only[PqL,Act.put])
 refine zai (by kernel_rfl) ?_ _
 repeat (clear hHeld)
 have H2:Hid (RM w0 G p (rclL { T with ha:=ha } R) (⟨g,72,(msV M A n c).toList⟩ :: ks) rs (W1.drew.setCell ⟨p,12,none⟩ (.int .i64 ha))):= zak (H1.out.drew.set 12 _)
 go_upto_region 20 with fail
 refine zcn (P:=RM w0 G p (rclL { T with ha:=ha } R) (⟨g,72,(msV M A n c).toList⟩ :: ks) rs) H2.out (fun W2 h2=>?_)
 clear H1 H2 q10 b12 f12 z1 zg q0 hha'
 have H2:=zak h2
 have z2:=h2.lt
 have q:Blk W2 g 72 (msV M A n c):= h2.k0
 have zg:=q.lt
 have q11:W2.cell? ⟨g,11,none⟩=some (.int .i64 M.bl):= q.cell 11 rfl
 have b12:W2.cell? ⟨p,12,none⟩=some (.int .i64 ha):= h2.blk.cell 12 rfl
 clear h2 q
 refine wp_region_held_drew (S:=(fun w'=>(∀ qA:Addr,qA.block < (W2).heap.size→w'.cell? qA=(W2).cell? qA)∧ Below (W2).heap.size (W2) w')) (by kernel_rfl) ?hS40 (fun hHeld=>?rest40)
 case hS40=>((try dsimp only);(((try go_split_ands);refine zbn ?_;all_goals exact bl)))
 case' rest40=>skip
 iterate 5 (refine tkN ?_;try simp only[PqL,Act.put])
 refine wpAnyH_ready (rs:= [5]) (by kernel_rfl) (by simp) ?_
 refine AllReadyH.cons (o:=_) rfl (fun K hK=>?_) .nil
 go_simp
 refine (zmg (p:=p) _ R.A R.n R.c T.b (H2.out.drew.blk.cell 4 rfl) HNR.out (by omega)).mono ?_
 rintro e w3 ⟨rfl,hw⟩
 subst hw
 rw[← HT.out]
 refine hK.out _ _ ?hS48 (fun hHeld=>?rest48)
 case hS48=>((try dsimp only);(((try go_split_ands);refine zbn ?_;all_goals exact bl)))
 case' rest48=>(clear hK K;try simp only[PqL,Act.put])
 refine tkH 6 ?_
 try simp only[PqL,Act.put]
 refine wpAnyH_done (by kernel_rfl) ?_ _
 have hEnd:=hHeld.2
 repeat (clear hHeld)
 have b1:W2.cell? ⟨p,1,none⟩=some (.int .i64 T.wk):= H2.out.blk.cell 1 rfl
 have f1:=H2.out.blk.frozen 1
 go_upto_region 23 with fail
 have H3:Hid (RM w0 G p (rclL { T with ha:=ha,wk:=18 } R) (⟨g,72,(msV M A n c).toList⟩ :: ks) rs (W2.drew.setCell ⟨p,1,none⟩ (.int .i64 18))):= zak (H2.out.drew.set 1 _)
 refine zcn (P:=RM w0 G p (rclL { T with ha:=ha,wk:=18 } R) (⟨g,72,(msV M A n c).toList⟩ :: ks) rs) H3.out (fun W3 h3=>?_)
 clear H2 H3 hEnd q11 b12 z2 zg b1 f1
 have H3:=zak h3
 have z3:=h3.lt
 have b4:W3.cell? ⟨p,4,none⟩=some (.slice R.A R.n R.c):= h3.blk.cell 4 rfl
 clear h3
 have hw7:IntKind.i64.wrap (7 * (tot:Int) - (R.n:Int))=7 * (tot:Int) - (R.n:Int):= by unfold IntKind.wrap;simp[IntKind.signed,IntKind.bits];omega
 have hw8:IntKind.i64.wrap (7 * (tot:Int))=7 * (tot:Int):= by unfold IntKind.wrap;simp[IntKind.signed,IntKind.bits];omega
 refine wp_region_held_drew (S:=(fun w'=>(∀ qA:Addr,qA.block < (W3).heap.size→w'.cell? qA=(W3).cell? qA)∧ Below (W3).heap.size (W3) w')) (by kernel_rfl) ?hS51 (fun hHeld=>?rest51)
 case hS51=>((try dsimp only);(((try go_split_ands);refine zbn ?_;all_goals exact bl)))
 case' rest51=>skip
 iterate 2 (refine tkN ?_;try simp only[PqL,Act.put])
 refine tkH 4 ?_
 try simp only[PqL,Act.put]
 refine tkH 5 ?_
 try simp only[PqL,Act.put]
 refine tkH 6 ?_
 try simp only[PqL,Act.put]
 refine tkH 7 ?_
 try simp only[PqL,Act.put]
 refine tkH 8 ?_
 try simp only[PqL,Act.put]
 refine tkH 10 ?_
 try simp only[PqL,Act.put]
 refine tkH 11 ?_
 try simp only[PqL,Act.put]
 refine tkH 12 ?_
 try simp only[PqL,Act.put]
 refine tkH 13 ?_
 try simp only[PqL,Act.put]
 refine wpAnyH_ready (rs:= [2]) (by kernel_rfl) (by simp) ?_
 refine AllReadyH.cons (o:=_) rfl (fun K hK=>?_) .nil
 go_simp
 refine (zmg (p:=p) _ R.A R.n R.c T.b (H3.out.drew.blk.cell 4 rfl) HNR.out (by omega)).mono ?_
 rintro e w3 ⟨rfl,hw⟩
 subst hw
 rw[← HT.out]
 refine hK.out _ _ ?hS65 (fun hHeld=>?rest65)
 case hS65=>((try dsimp only);(((try go_split_ands);refine zbn ?_;all_goals exact bl)))
 case' rest65=>(clear hK K;try simp only[PqL,Act.put])
 refine tkH 3 ?_
 try simp only[PqL,Act.put]
 refine tkH 9 ?_
 try simp only[PqL,Act.put]
 refine wpAnyH_ready (rs:= [14]) (by kernel_rfl) (by simp) ?_
 refine AllReadyH.cons (o:=_) rfl (fun K hK=>?_) .nil
 go_simp
 refine (zmw R.A R.n R.c T.b _ HNR.out (by omega) (H3.out.drew.sl HBB.out)).mono ?_
 rintro e w4 ⟨rfl,hw⟩
 subst hw
 refine hK.out _ _ ?hS70 (fun hHeld=>?rest70)
 case hS70=>((try dsimp only);(((try go_split_ands);refine zbn ?_;all_goals exact bl)))
 case' rest70=>(clear hK K;try simp only[PqL,Act.put])
 refine tkH 15 ?_
 try simp only[PqL,Act.put]
 have HSU:=zak (zln (p:=p) T.nd (bdeM (7 * (tot:Int) - (R.n:Int)) (sum16L T.b)) none 0 0 W3.drew (H3.out.drew.blk.cell 0 rfl) HND.out rfl (Sl.nil _ _) ⟨Nat.zero_le _,Nat.zero_le _,by have:=za4 T.b;unfold U16 at this;show sum16L T.b≤_;omega⟩)
 unfold msV bdeM at HSU
 refine wpAnyH_ready (rs:= [16]) (by kernel_rfl) (by simp) ?_
 refine AllReadyH.cons (o:=_) rfl (fun K hK=>?_) .nil
 go_simp
 refine HSU.out.mono ?_
 rintro e w6 ⟨As,ns,cs,ds,rfl,hO,hb⟩
 have HF:=zak (zlk (T:={ T with ha:=ha,wk:=18 }) (R:=R) (L:= [bdeM (7 * (tot:Int) - (R.n:Int)) (sum16L T.b)]) H3.out.drew HBB.out HDD.out ⟨As,ns,cs,ds,rfl,hO,hb⟩)
 clear hO
 refine hK.out _ _ ?hS74 (fun hHeld=>?rest74)
 case hS74=>((try dsimp only);(((try go_split_ands);refine zbn ?_;all_goals exact bl)))
 case' rest74=>(clear hK K;try simp only[PqL,Act.put])
 refine tkH 17 ?_
 try simp only[PqL,Act.put]
 refine wpAnyH_done (by kernel_rfl) ?_ _
 have hEnd:=hHeld.2
 repeat (clear hHeld)
 go_wp2_with fail
 rw[HP2.out,← HHA.out,← HT.out,← HNR.out]
 exact HF.out
theorem znc (T:RCli) (R:RR) (M:Ms) (A:Option Addr) (n c:Nat) (W:World) (h:RM w0 G p (rclL T R) ks rs W) (hnd:1≤T.nd∧T.nd≤127) (hb:⟨R.A,R.n,R.c,T.b⟩ ∈ rs) (hd:⟨R.A2,R.n2,R.c2,T.data⟩ ∈ rs) (hM:⟨A,n,c,M.data⟩ ∈ rs) (hl:T.b.length≤100000) (hMs:MsB M) (hhb:0≤T.ha∧T.ha≤90000) (hnx:0≤T.nx∧T.nx≤1001) :
 Calls Try.prog 44 #[.pointer (some ⟨p,0,none⟩),.agg (msV M A n c)] W (zli w0 G p (rGoS T M) (rGoL T M)):= by
 have hk:=hMs.k
 have hMl:=hMs.dl
 have hcs:M.kind=12∨M.kind=13∨M.kind=14∨M.kind=15∨M.kind=16∨M.kind=17∨M.kind=18∨M.kind=19∨M.kind=20∨M.kind=21:=by omega
 rcases hcs with e | e | e | e | e | e | e | e | e | e
 · cases hq:T.qk
   · exact zm0 T R M A n c W h hnd hb hd hM hl hMl hMs hhb hnx e hq
   · exact zmz T R M A n c W h hnd hb hd hM hl hMl hMs hhb hnx e hq
 · cases hq:T.la
   · exact zm2 T R M A n c W h hnd hb hd hM hl hMl hMs hhb hnx e hq
   · exact zm1 T R M A n c W h hnd hb hd hM hl hMl hMs hhb hnx e hq
 · exact zm3 T R M A n c W h hnd hb hd hM hl hMl hMs hhb hnx e
 · exact zm4 T R M A n c W h hnd hb hd hM hl hMl hMs hhb hnx e
 · exact zm7 T R M A n c W h hnd hb hd hM hl hMl hMs hhb hnx e
 · by_cases hlt:T.ha+M.sq < btotal T.b
   · exact zna T R M A n c W h hnd hb hd hM hl hMl hMs hhb hnx e hlt
   · exact znb T R M A n c W h hnd hb hd hM hl hMl hMs hhb hnx e hlt
 · exact zm8 T R M A n c W h hnd hb hd hM hl hMl hMs hhb hnx e
 · exact zm9 T R M A n c W h hnd hb hd hM hl hMl hMs hhb hnx e
 · exact zm5 T R M A n c W h hnd hb hd hM hl hMl hMs hhb hnx e
 · exact zm6 T R M A n c W h hnd hb hd hM hl hMl hMs hhb hnx e
end
end
end Go.Proofs.Ythdbckbpldlkeaa
