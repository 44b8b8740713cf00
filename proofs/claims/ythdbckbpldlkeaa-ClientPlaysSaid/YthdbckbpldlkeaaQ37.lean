/- None -/
import Derived.Test.YthdbckbpldlkeaaQ34
namespace Go.Proofs.Ythdbckbpldlkeaa
set_option linter.unusedVariables false
set_option linter.unusedSimpArgs false
set_option linter.unnecessarySimpa false
section
open Go.RowKit Go.Maps
set_option maxRecDepth 100000
set_option maxHeartbeats 8000000
section
variable {w0:World} {G:Nat→Prop} {p:Nat} {ks:List KB} {rs:List RB}
theorem zmo (T:RCli) (R:RR) (M:Ms) (A:Option Addr) (n c:Nat) (W:World) (h:RM w0 G p (rclL T R) ks rs W) (hnd:1≤T.nd∧T.nd≤127) (hb:⟨R.A,R.n,R.c,T.b⟩ ∈ rs) (hd:⟨R.A2,R.n2,R.c2,T.data⟩ ∈ rs) (hM:⟨A,n,c,M.data⟩ ∈ rs) (hl:T.b.length≤100000) (hMl:M.data.length≤7) (hk:M.kind=14) (hz:M.data≠ []) :
 Calls Try.prog 63 #[.pointer (some ⟨p,0,none⟩),.agg (msV M A n c)] W (zli w0 G p (rUpS T M) (rUpL T M)):= by
 have hnm:n=M.data.length:=h.rn hM
 have hnr:R.n=T.b.length:=h.rn hb
 have H1:Hid (RM w0 G p (rclL T R) (⟨W.heap.size,72,(msV M A n c).toList⟩ :: ks) rs (W.alloc (.cells (msV M A n c) 72))):= zak (h.new _ _)
 have HND:=zak hnd
 have HBB:=zak hb
 have HDD:=zak hd
 have HM:=zak hM
 have HNM:=zak hnm
 have HNR:=zak hnr
 have hn7:n≤7:=by omega
 have hnb:R.n≤100000:=by omega
 obtain⟨P,hP⟩:∃ P,P=zli w0 G p (rUpS T M) (rUpL T M):= ⟨_,rfl⟩
 have HP:=zak hP
 rw[← hP]
 have HP2:Hid (P=zli w0 G p (rEnds T 0 M.data) []):= zak (by rw[hP];unfold rUpS rUpL;rw[if_pos ⟨hk,hz⟩,if_pos ⟨hk,hz⟩])
 have hn0:0 < (n:Int):= by
  have:M.data.length≠0:=fun e=>hz (List.eq_nil_of_length_eq_zero e)
  omega
 have HK:=zak hk
 clear hk hz
 clear h hnd hb hd hM hP hnm hnr hl hMl
 unfold msV at H1 ⊢
 go_enter Try.func63,Try.ntmps63
 go_upto_region 1 with fail
 refine zcn (P:=fun W1=>RM w0 G p (rclL T R) (⟨W.heap.size,72,(msV M A n c).toList⟩ :: ks) rs W1) (by exact H1.out) (fun W1 h1=>?_)
 obtain⟨g,hg⟩:∃ g,g=W.heap.size:=⟨_,rfl⟩
 rw[← hg] at h1 ⊢
 clear H1 hg
 have H1:=zak h1
 have z1:=h1.lt
 have q:Blk W1 g 72 (msV M A n c):= h1.k0
 have zg:=q.lt
 have hgp:g≠p:=(h1.keep ⟨g,72,(msV M A n c).toList⟩ (by simp)).1
 have q0:W1.cell? ⟨g,0,none⟩=some (.int .i64 14):= by rw[← HK.out];exact q.cell 0 rfl
 have q9:W1.cell? ⟨g,9,none⟩=some (.slice A n c):= q.cell 9 rfl
 clear h1 q
 go_wp2_with fail
 refine (zlq T R 0 A n c M.data W1 H1.out HM.out (by have:=HNM.out;omega)).mono ?_
 rintro e W2 ⟨rfl,A',c',h2⟩
 have HF:=zak (zll (T:=rEnds T 0 M.data) (R:={ R with A2:=A',n2:=n,c2:=c' }) h2 (by simp;exact .inr HBB.out) (by simp[rEnds]))
 clear h2
 go_wp2_with fail
 rw[HP2.out]
 exact HF.out
theorem zmp (T:RCli) (R:RR) (M:Ms) (A:Option Addr) (n c:Nat) (W:World) (h:RM w0 G p (rclL T R) ks rs W) (hnd:1≤T.nd∧T.nd≤127) (hb:⟨R.A,R.n,R.c,T.b⟩ ∈ rs) (hd:⟨R.A2,R.n2,R.c2,T.data⟩ ∈ rs) (hM:⟨A,n,c,M.data⟩ ∈ rs) (hl:T.b.length≤100000) (hMl:M.data.length≤7) (hsz:M.size≤4294967295) (hk:M.kind=14) (hz:M.data= []) :
 Calls Try.prog 63 #[.pointer (some ⟨p,0,none⟩),.agg (msV M A n c)] W (zli w0 G p (rUpS T M) (rUpL T M)):= by
 have hnm:n=M.data.length:=h.rn hM
 have hnr:R.n=T.b.length:=h.rn hb
 have H1:Hid (RM w0 G p (rclL T R) (⟨W.heap.size,72,(msV M A n c).toList⟩ :: ks) rs (W.alloc (.cells (msV M A n c) 72))):= zak (h.new _ _)
 have HND:=zak hnd
 have HBB:=zak hb
 have HDD:=zak hd
 have HM:=zak hM
 have HNM:=zak hnm
 have HNR:=zak hnr
 have hn7:n≤7:=by omega
 have hnb:R.n≤100000:=by omega
 obtain⟨P,hP⟩:∃ P,P=zli w0 G p (rUpS T M) (rUpL T M):= ⟨_,rfl⟩
 have HP:=zak hP
 rw[← hP]
 have HP2:Hid (P=zli w0 G p { T with sz:=M.sz,si:=M.size,wk:=15 } (rSend T [usegM T.tg])):= zak (by
  have h1: ¬ (M.kind=14∧M.data≠ []):= fun h=>h.2 hz
  have h2: ¬ (M.kind=15∧M.la=true):= fun h=>by omega
  rw[hP];unfold rUpS rUpL;rw[if_neg h1,if_neg h1,if_neg h2,if_neg h2];unfold rUpA;rw[if_pos hk])
 have hn0: ¬ (0:Int) < (n:Int):= by
  have:n=0:=by rw[hnm,hz];rfl
  omega
 have hwz:IntKind.i64.wrap (M.size:Int)=(M.size:Int):= by unfold IntKind.wrap;simp[IntKind.signed,IntKind.bits];omega
 have HK:=zak hk
 clear hk hz
 clear h hnd hb hd hM hP hnm hnr hl hMl
 unfold msV at H1 ⊢
 go_enter Try.func63,Try.ntmps63
 go_upto_region 1 with fail
 refine zcn (P:=fun W1=>RM w0 G p (rclL T R) (⟨W.heap.size,72,(msV M A n c).toList⟩ :: ks) rs W1) (by exact H1.out) (fun W1 h1=>?_)
 obtain⟨g,hg⟩:∃ g,g=W.heap.size:=⟨_,rfl⟩
 rw[← hg] at h1 ⊢
 clear H1 hg
 have H1:=zak h1
 have z1:=h1.lt
 have q:Blk W1 g 72 (msV M A n c):= h1.k0
 have zg:=q.lt
 have hgp:g≠p:=(h1.keep ⟨g,72,(msV M A n c).toList⟩ (by simp)).1
 have q0:W1.cell? ⟨g,0,none⟩=some (.int .i64 14):= by rw[← HK.out];exact q.cell 0 rfl
 have q6:W1.cell? ⟨g,6,none⟩=some (.bool M.sz):= q.cell 6 rfl
 have q7:W1.cell? ⟨g,7,none⟩=some (.int .u32 (M.size:Nat)):= q.cell 7 rfl
 have q9:W1.cell? ⟨g,9,none⟩=some (.slice A n c):= q.cell 9 rfl
 have b9:W1.cell? ⟨p,9,none⟩=some (.bool T.sz):= h1.blk.cell 9 rfl
 have b10:W1.cell? ⟨p,10,none⟩=some (.int .i64 T.si):= h1.blk.cell 10 rfl
 have b1:W1.cell? ⟨p,1,none⟩=some (.int .i64 T.wk):= h1.blk.cell 1 rfl
 have b7:W1.cell? ⟨p,7,none⟩=some (.bool T.tg):= h1.blk.cell 7 rfl
 have ff:=h1.blk.frozen
 have HU:Hid (RM w0 G p (rclL { T with sz:=M.sz,si:=M.size,wk:=15 } R) (⟨g,72,(msV M A n c).toList⟩ :: ks) rs _):= zak (((h1.set 9 (.bool M.sz)).set 10 (.int .i64 (M.size:Nat))).set 1 (.int .i64 15))
 have HSU:=zak (zln (p:=p) T.nd (usegM T.tg) none 0 0 _ (HU.out.blk.cell 0 rfl) HND.out rfl (Sl.nil _ _) ⟨Nat.zero_le _,Nat.zero_le _,Nat.zero_le _⟩)
 unfold msV usegM at HSU
 clear h1 q
 go_wp2_with fail
 refine HSU.out.mono ?_
 rintro e w2 ⟨As,ns,cs,ds,rfl,hO,hb⟩
 have HF:=zak (zlk (T:={ T with sz:=M.sz,si:=M.size,wk:=15 }) (R:=R) HU.out HBB.out HDD.out ⟨As,ns,cs,ds,rfl,hO,hb⟩)
 clear hO hb
 go_wp2_with fail
 rw[HP2.out]
 exact HF.out
theorem zmq (T:RCli) (R:RR) (M:Ms) (A:Option Addr) (n c:Nat) (W:World) (h:RM w0 G p (rclL T R) ks rs W) (hnd:1≤T.nd∧T.nd≤127) (hb:⟨R.A,R.n,R.c,T.b⟩ ∈ rs) (hd:⟨R.A2,R.n2,R.c2,T.data⟩ ∈ rs) (hM:⟨A,n,c,M.data⟩ ∈ rs) (hl:T.b.length≤100000) (hMl:M.data.length≤7) (hk:M.kind=15) :
 Calls Try.prog 63 #[.pointer (some ⟨p,0,none⟩),.agg (msV M A n c)] W (zli w0 G p (rUpS T M) (rUpL T M)):= by
 have hnm:n=M.data.length:=h.rn hM
 have hnr:R.n=T.b.length:=h.rn hb
 have H1:Hid (RM w0 G p (rclL T R) (⟨W.heap.size,72,(msV M A n c).toList⟩ :: ks) rs (W.alloc (.cells (msV M A n c) 72))):= zak (h.new _ _)
 have HND:=zak hnd
 have HBB:=zak hb
 have HDD:=zak hd
 have HM:=zak hM
 have HNM:=zak hnm
 have HNR:=zak hnr
 have hn7:n≤7:=by omega
 have hnb:R.n≤100000:=by omega
 obtain⟨P,hP⟩:∃ P,P=zli w0 G p (rUpS T M) (rUpL T M):= ⟨_,rfl⟩
 have HP:=zak hP
 rw[← hP]
 have HP2:Hid (P=zli w0 G p (if M.la=true then (if T.sz=true∧((T.b ++ M.data).length:Int)≠ T.si then rEnds { T with b:=T.b ++ M.data,tg:=!T.tg } 101122064 [] else rEnds { T with b:=T.b ++ M.data,tg:=!T.tg } 0 (T.b ++ M.data)) else { T with b:=T.b ++ M.data,tg:=!T.tg,wk:=15 }) (if M.la=true then (if T.sz=true∧((T.b ++ M.data).length:Int)≠ T.si then rGivL T 101122064 else []) else rSend T [usegM (!T.tg)])):= zak (by
  have h1: ¬ (M.kind=14∧M.data≠ []):= fun h=>by omega
  have h3: ¬ M.kind=14:=by omega
  rw[hP];unfold rUpS rUpL rUpA;rw[if_neg h1,if_neg h1,if_neg h3]
  simp only[hk,true_and])
 have HK:=zak hk
 clear hk
 clear h hnd hb hd hM hP hnm hnr hl hMl
 unfold msV at H1 ⊢
 go_enter Try.func63,Try.ntmps63
 go_upto_region 1 with fail
 refine zcn (P:=fun W1=>RM w0 G p (rclL T R) (⟨W.heap.size,72,(msV M A n c).toList⟩ :: ks) rs W1) (by exact H1.out) (fun W1 h1=>?_)
 obtain⟨g,hg⟩:∃ g,g=W.heap.size:=⟨_,rfl⟩
 rw[← hg] at h1 ⊢
 clear H1 hg
 have H1:=zak h1
 have z1:=h1.lt
 have q:Blk W1 g 72 (msV M A n c):= h1.k0
 have zg:=q.lt
 have hgp:g≠p:=(h1.keep ⟨g,72,(msV M A n c).toList⟩ (by simp)).1
 have q0:W1.cell? ⟨g,0,none⟩=some (.int .i64 15):= by rw[← HK.out];exact q.cell 0 rfl
 have q9:W1.cell? ⟨g,9,none⟩=some (.slice A n c):= q.cell 9 rfl
 have b4:W1.cell? ⟨p,4,none⟩=some (.slice R.A R.n R.c):= h1.blk.cell 4 rfl
 clear h1 q
 go_upto_region 7 with fail
 refine zaj (fun w'=>w'.cell? ⟨g,9,none⟩=some (.slice A n c)∧ w'.cell? ⟨p,4,none⟩=some (.slice R.A R.n R.c)) [0,1,2,3,4,5,6,7,8,9] (by kernel_rfl) ?hS1 (fun hHeld=>?rest1)
 case hS1=>((try dsimp only);exact⟨q9,b4⟩)
 case' rest1=>skip
 refine tkT 0 ?_
 try simp only[PqL,Act.put]
 refine tkT 1 ?_
 try simp only[PqL,Act.put]
 refine tkT 2 ?_
 try simp only[PqL,Act.put]
 refine tkT 3 ?_
 try simp only[PqL,Act.put]
 refine tkT 4 ?_
 try simp only[PqL,Act.put]
 refine tkT 5 ?_
 try simp only[PqL,Act.put]
 refine tkT 6 ?_
 try simp only[PqL,Act.put]
 refine zag (i:=7) (o:=_) rfl (by kernel_rfl) (fun K hK=>?_)
 go_simp
 refine (zc8 R.A A R.n n R.c c T.b M.data _ HNR.out HNM.out (by omega) (by omega) (H1.out.drew.sl HBB.out) (H1.out.drew.sl HM.out)).mono ?_
 rintro e w3 ⟨A6,N6,c6,rfl,hO6,hb6⟩
 dsimp only
 have H6:=zak ((H1.out.drew.step hb6).row (hO6.mono H1.out.drew.size))
 have HN6:Hid (N6=(T.b ++ M.data).length):= zak hO6.hn
 have q6':Blk w3 g 72 (msV M A n c):= H6.out.k0
 have Q6:=zak q6'
 have b4b:w3.cell? ⟨p,4,none⟩=some (.slice R.A R.n R.c):= H6.out.blk.cell 4 rfl
 have f4:=H6.out.blk.frozen 4
 have z6:=H6.out.lt
 clear hO6 hb6 q6'
 refine hK.out _ _ ?hS10 (fun hHeld=>?rest10)
 case hS10=>((try dsimp only);(exact⟨Q6.out.cell 9 rfl,b4b⟩))
 case' rest10=>(clear hK K;try simp only[PqL,Act.put])
 refine tkT 8 ?_
 try simp only[PqL,Act.put]
 refine tkT 9 ?_
 try simp only[PqL,Act.put]
 refine zah (i:=10) (o:=_) rfl (by kernel_rfl) (by kernel_rfl) (fun K hK=>?_)
 go_simp
 refine hK.out _ _ ?rest14
 case' rest14=>(clear hK K;try simp only[PqL,Act.put])
 refine zai (by kernel_rfl) ?_ _
 repeat (clear hHeld)
 have H7:Hid (RM w0 G p (rclL { T with b:=T.b ++ M.data } { R with A:=A6,n:=N6,c:=c6 }) (⟨g,72,(msV M A n c).toList⟩ :: ks) (⟨A6,N6,c6,T.b ++ M.data⟩ :: rs) (w3.setCell ⟨p,4,none⟩ (.slice A6 N6 c6))):= zak (H6.out.set 4 _)
 clear H6 Q6 b4b f4 z6 b4 q9 q0 z1 zg H1
 go_upto_region 8 with fail
 refine zcn (P:=RM w0 G p (rclL { T with b:=T.b ++ M.data } { R with A:=A6,n:=N6,c:=c6 }) (⟨g,72,(msV M A n c).toList⟩ :: ks) (⟨A6,N6,c6,T.b ++ M.data⟩ :: rs)) H7.out (fun W7 h7=>?_)
 clear H7
 have H8:Hid (RM w0 G p (rclL { T with b:=T.b ++ M.data,tg:=!T.tg } { R with A:=A6,n:=N6,c:=c6 }) (⟨g,72,(msV M A n c).toList⟩ :: ks) (⟨A6,N6,c6,T.b ++ M.data⟩ :: rs) (W7.setCell ⟨p,7,none⟩ (.bool (!T.tg)))):= zak (h7.set 7 _)
 have b7:W7.cell? ⟨p,7,none⟩=some (.bool T.tg):= h7.blk.cell 7 rfl
 have f7:=h7.blk.frozen 7
 have z7:=h7.lt
 clear h7
 go_upto_region 9 with fail
 refine zcn (P:=RM w0 G p (rclL { T with b:=T.b ++ M.data,tg:=!T.tg } { R with A:=A6,n:=N6,c:=c6 }) (⟨g,72,(msV M A n c).toList⟩ :: ks) (⟨A6,N6,c6,T.b ++ M.data⟩ :: rs)) H8.out (fun W8 h8=>?_)
 clear H8 b7 f7 z7
 have H8:=zak h8
 have z8:=h8.lt
 have q:Blk W8 g 72 (msV M A n c):= h8.k0
 have zg:=q.lt
 have q0:W8.cell? ⟨g,0,none⟩=some (.int .i64 15):= by rw[← HK.out];exact q.cell 0 rfl
 have q4:W8.cell? ⟨g,4,none⟩=some (.bool M.la):= q.cell 4 rfl
 have b1:W8.cell? ⟨p,1,none⟩=some (.int .i64 T.wk):= h8.blk.cell 1 rfl
 have b4:W8.cell? ⟨p,4,none⟩=some (.slice A6 N6 c6):= h8.blk.cell 4 rfl
 have b7:W8.cell? ⟨p,7,none⟩=some (.bool (!T.tg)):= h8.blk.cell 7 rfl
 have b9:W8.cell? ⟨p,9,none⟩=some (.bool T.sz):= h8.blk.cell 9 rfl
 have b10:W8.cell? ⟨p,10,none⟩=some (.int .i64 T.si):= h8.blk.cell 10 rfl
 have ff:=h8.blk.frozen
 clear q
 rcases Bool.eq_false_or_eq_true M.la with hla | hla
 · have HLA:=zak hla
   rw[hla] at q4
   clear hla
   have hge:Hid (zli w0 G p (rEnds ({ T with b:=T.b ++ M.data,tg:=!T.tg }:RCli) 101122064 []) (rGivL ({ T with b:=T.b ++ M.data,tg:=!T.tg }:RCli) 101122064)=zli w0 G p (rEnds ({ T with b:=T.b ++ M.data,tg:=!T.tg }:RCli) 101122064 []) (rGivL T 101122064)):= zak rfl
   rcases Bool.eq_false_or_eq_true T.sz with hsz | hsz
   · have HSZ:=zak hsz
     rw[hsz] at b9
     clear hsz h8
     by_cases hsi:(N6:Int)=T.si
     · have d1:((N6:Int) != T.si)=false:=by simp[hsi]
       have HSI:=zak hsi
       clear hsi
       go_upto_region 10 with fail
       go_quiet (fail)
       go_wp2_with fail
       refine (zlq ({ T with b:=T.b ++ M.data,tg:=!T.tg }:RCli) ({ R with A:=A6,n:=N6,c:=c6 }:RR) 0 A6 N6 c6 (T.b ++ M.data) _ (H8.out.step bl) (by simp) (by have:=HN6.out;have:=HNR.out;have:=HNM.out;simp at *;omega)).mono ?_
       rintro e W9 ⟨rfl,A9,c9,h9⟩
       have HF:=zak (zll (T:=rEnds ({ T with b:=T.b ++ M.data,tg:=!T.tg }:RCli) 0 (T.b ++ M.data)) (R:={ R with A:=A6,n:=N6,c:=c6,A2:=A9,n2:=N6,c2:=c9 }) h9 (by simp[rEnds]) (by simp[rEnds]))
       clear h9
       go_wp2_with fail
       rw[HP2.out,if_pos HLA.out,if_pos HLA.out,if_neg (fun h=>h.2 (by rw[← HN6.out];exact HSI.out)),if_neg (fun h=>h.2 (by rw[← HN6.out];exact HSI.out))]
       exact HF.out
     · have d1:((N6:Int) != T.si)=true:=by simp[hsi]
       have HSI:=zak hsi
       clear hsi
       go_upto_region 10 with fail
       go_quiet (fail)
       go_wp2_with fail
       refine (zlr ({ T with b:=T.b ++ M.data,tg:=!T.tg }:RCli) ({ R with A:=A6,n:=N6,c:=c6 }:RR) 101122064 _ (H8.out.step bl) HND.out (by simp) (by omega)).mono ?_
       rintro e W9 hR
       obtain⟨As,ns,cs,rfl⟩:= hR.shape
       have HR:=zak hR
       clear hR
       go_wp2_with fail
       rw[HP2.out,if_pos HLA.out,if_pos HLA.out,if_pos ⟨HSZ.out,fun h=>HSI.out (by rw[HN6.out];exact h)⟩,if_pos ⟨HSZ.out,fun h=>HSI.out (by rw[HN6.out];exact h)⟩,← hge.out]
       exact HR.out
   · have HSZ:=zak hsz
     rw[hsz] at b9
     clear hsz h8
     go_upto_region 10 with fail
     go_quiet (fail)
     go_wp2_with fail
     refine (zlq ({ T with b:=T.b ++ M.data,tg:=!T.tg }:RCli) ({ R with A:=A6,n:=N6,c:=c6 }:RR) 0 A6 N6 c6 (T.b ++ M.data) _ (H8.out.step bl) (by simp) (by have:=HN6.out;have:=HNR.out;have:=HNM.out;simp at *;omega)).mono ?_
     rintro e W9 ⟨rfl,A9,c9,h9⟩
     have HF:=zak (zll (T:=rEnds ({ T with b:=T.b ++ M.data,tg:=!T.tg }:RCli) 0 (T.b ++ M.data)) (R:={ R with A:=A6,n:=N6,c:=c6,A2:=A9,n2:=N6,c2:=c9 }) h9 (by simp[rEnds]) (by simp[rEnds]))
     clear h9
     go_wp2_with fail
     rw[HP2.out,if_pos HLA.out,if_pos HLA.out,if_neg (fun h=>by have:=h.1;rw[HSZ.out] at this;cases this),if_neg (fun h=>by have:=h.1;rw[HSZ.out] at this;cases this)]
     exact HF.out
 · have HLA:=zak hla
   rw[hla] at q4
   clear hla
   have HU:Hid (RM w0 G p (rclL { T with b:=T.b ++ M.data,tg:=!T.tg,wk:=15 } ({ R with A:=A6,n:=N6,c:=c6 }:RR)) (⟨g,72,(msV M A n c).toList⟩ :: ks) _ (W8.setCell ⟨p,1,none⟩ (.int .i64 15))):= zak (h8.set 1 (.int .i64 15))
   have HSU:=zak (zln (p:=p) T.nd (usegM (!T.tg)) none 0 0 _ (HU.out.blk.cell 0 rfl) HND.out rfl (Sl.nil _ _) ⟨Nat.zero_le _,Nat.zero_le _,Nat.zero_le _⟩)
   unfold msV usegM at HSU
   clear h8
   go_wp2_with fail
   refine HSU.out.mono ?_
   rintro e w2 ⟨As,ns,cs,ds,rfl,hO,hb⟩
   have HF:=zak (zlk (T:={ T with b:=T.b ++ M.data,tg:=!T.tg,wk:=15 }) (R:={ R with A:=A6,n:=N6,c:=c6 }) HU.out (by simp) (by simp;exact .inr HDD.out) ⟨As,ns,cs,ds,rfl,hO,hb⟩)
   clear hO hb
   go_wp2_with fail
   rw[HP2.out,if_neg (by rw[HLA.out];decide),if_neg (by rw[HLA.out];decide)]
   exact HF.out
theorem zmr (T:RCli) (R:RR) (M:Ms) (A:Option Addr) (n c:Nat) (W:World) (h:RM w0 G p (rclL T R) ks rs W) (hnd:1≤T.nd∧T.nd≤127) (hb:⟨R.A,R.n,R.c,T.b⟩ ∈ rs) (hd:⟨R.A2,R.n2,R.c2,T.data⟩ ∈ rs) (hM:⟨A,n,c,M.data⟩ ∈ rs) (hl:T.b.length≤100000) (hMl:M.data.length≤7) (hsz:M.size≤4294967295) (hk:M.kind=14∨M.kind=15) :
 Calls Try.prog 63 #[.pointer (some ⟨p,0,none⟩),.agg (msV M A n c)] W (zli w0 G p (rUpS T M) (rUpL T M)):= by
 rcases hk with hk | hk
 · by_cases hz:M.data= []
   · exact zmp T R M A n c W h hnd hb hd hM hl hMl hsz hk hz
   · exact zmo T R M A n c W h hnd hb hd hM hl hMl hk hz
 · exact zmq T R M A n c W h hnd hb hd hM hl hMl hk
end
end
section
open Go.RowKit
set_option maxRecDepth 20000
set_option maxHeartbeats 1000000
theorem zms (a:Nat) (ha:U16 a):bits .xor .i64 (a:Int) 4129=((a ^^^ 4129:Nat):Int):= by
 have ha':a < 65536:=ha
 have hx:a ^^^ 4129 < 2 ^ 16:=Nat.xor_lt_two_pow (by omega) (by omega)
 show IntKind.i64.wrap ((BitVec.ofInt 64 (a:Int) ^^^ BitVec.ofInt 64 ((4129:Nat):Int)).toNat:Int)=_
 rw[BitVec.toNat_xor,ofInt_u64 a (by omega),ofInt_u64 4129 (by omega)]
 exact IntWalk.i64_in _ (by omega)
theorem zmt (r b:Nat) (h:r / 32768=b):c16Bit r b=r * 2 % 65536:=by rw[c16Bit,if_pos h]
theorem zmu (r b:Nat) (h: ¬ r / 32768=b):c16Bit r b=(r * 2 % 65536) ^^^ 4129:=by rw[c16Bit,if_neg h]
theorem p128 (j:Nat) (hj:j < 8):128 / 2 ^ j=2 ^ (7 - j)∧ 128 / 2 ^ (j+1)=128 / 2 ^ j / 2∧1≤128 / 2 ^ j∧128 / 2 ^ j≤128:=by
 have:j=0∨j=1∨j=2∨j=3∨j=4∨j=5∨j=6∨j=7:=by omega
 rcases this with rfl | rfl | rfl | rfl | rfl | rfl | rfl | rfl<;>decide
theorem zmv (A:Option Addr) (n c s:Nat) (l:List UInt8) (w:World) (hn:n=l.length) (hl:n≤35184372088832) (hu:U16 s) (hs:Sl w A (l.map bv)) :
 Calls Try.prog 86 #[.int .u16 (s:Nat),.slice A n c] w fun e w'=>e= .returned (.int .u16 (c16L s l:Nat))∧ w=w':=by
 have HN:=zak hn
 have hu':s≤65535:=by unfold U16 at hu;omega
 clear hn
 go_enter Try.func86,Try.ntmps86
 go_wp2_with fail
 go_loop [5,6,7,8,9] (fun r i _ _ _=> ∃ k:Nat,k≤n∧i= .int .i64 (k:Nat)∧ r= .int .i64 (c16L s (l.take k):Nat)) (fun _ i _ _ _=>n - (intOf i).toNat)
 case atStart=>exact⟨0,by omega,rfl,rfl⟩
 case round=>
  obtain⟨k,hk,rfl,rfl⟩:= hrel
  have hrl:=za1 hu (l.take k)
  obtain⟨r,hr⟩:∃ r,r=c16L s (l.take k):= ⟨_,rfl⟩
  rw[← hr] at hrl ⊢
  have HR:=zak hr
  clear hr
  by_cases hlt:k < n
  · obtain⟨ad,rfl,hcell⟩:= hs.byte (j:=k) (by have:=HN.out;omega)
    obtain⟨b,hb⟩:∃ b,b=(l[k]'(by have:=HN.out;omega)).toNat:=⟨_,rfl⟩
    have lb:b < 256:=by rw[hb];exact UInt8.toNat_lt _
    rw[← hb] at hcell
    have HK:=zak (show c16L s (l.take (k+1))=c16Bits r b 8 by rw[za3 _ _ _ (by have:=HN.out;omega),hb,HR.out])
    clear hb
    go_wp2_with fail
    go_loop [5,7,8,9] (fun x y i _=> ∃ j:Nat,j≤8∧i= .int .i64 (j:Nat)∧ x= .int .i64 (c16Bits r b j:Nat)∧ y= .int .i64 (128 / 2 ^ j:Nat)) (fun _ _ i _=>8 - (intOf i).toNat)
    case atStart=>exact⟨0,by omega,rfl,rfl,rfl⟩
    case round=>
     obtain⟨j,hj,rfl,rfl,rfl⟩:= hrel
     have hxl:=za0 hrl b j
     by_cases hj8:j < 8
     · obtain⟨y1,y2,y3,y4⟩:= p128 j hj8
       have HS:=zak (show c16Bits r b (j+1)=c16Bit (c16Bits r b j) (b / (128 / 2 ^ j) % 2) by rw[y1];rfl)
       have HY:=zak y2
       obtain⟨x,hx⟩:∃ x,x=c16Bits r b j:=⟨_,rfl⟩
       obtain⟨y,hy⟩:∃ y,y=128 / 2 ^ j:=⟨_,rfl⟩
       rw[← hx] at hxl HS ⊢
       rw[← hy] at y3 y4 HS HY ⊢
       clear hx hy y1 y2
       have hxl':x≤65535:=by unfold U16 at hxl;omega
       have hxp:=zms (x * 2 % 65536) (show x * 2 % 65536 < 65536 from Nat.mod_lt _ (by decide))
       have hy0: ¬ (y:Int)=0:=by omega
       obtain⟨q,hq⟩:∃ q,q=b / y:=⟨_,rfl⟩
       have hqi:(b:Int) / (y:Int)=(q:Int):= by rw[hq];simp
       have hqt:(b:Int).tdiv (y:Int)=(q:Int):= by rw[hq];exact (Int.ofNat_tdiv b y).symm
       have hql:q≤255:=by rw[hq];exact Nat.le_trans (Nat.div_le_self _ _) (by omega)
       rw[← hq] at HS
       clear hq
       by_cases hp:x / 32768=q % 2
       · have hp':((x:Int) / 32768 != (q:Int) % 2)=false:=by simp;omega
         have HP:=zak hp
         clear hp
         go_wp2_with fail
         go_round
         case rel=>exact⟨j+1,by omega,by go_num,by rw[HS.out,zmt _ _ HP.out];go_num,by rw[HY.out];go_num⟩
         case measure=>simp[intOf];omega
       · have hp':((x:Int) / 32768 != (q:Int) % 2)=true:=by simp;omega
         have HP:=zak hp
         clear hp
         go_wp2_with fail
         go_round
         case rel=>exact⟨j+1,by omega,by go_num,by rw[HS.out,zmu _ _ HP.out,← hxp];rfl,by rw[HY.out];go_num⟩
         case measure=>simp[intOf];omega
     · obtain rfl:j=8:=by omega
       clear hcell
       go_wp2_with fail
       go_round
       case rel=>exact⟨k+1,by omega,by go_num,by rw[HK.out]⟩
       case measure=>simp[intOf];omega
  · obtain rfl:k=n:=by omega
    have HT:=zak (show l.take k=l from List.take_of_length_le (by have:=HN.out;omega))
    have hrl':r≤65535:=by unfold U16 at hrl;omega
    go_wp2_with fail
    go_ret
    exact⟨zau (by rw[← HT.out,← HR.out];try omega),rfl⟩
theorem zmw (A:Option Addr) (n c:Nat) (l:List UInt8) (w:World) (hn:n=l.length) (hl:n≤35184372088832) (hs:Sl w A (l.map bv)) :
 Calls Try.prog 66 #[.slice A n c] w fun e w'=>e= .returned (.int .u16 (sum16L l:Nat))∧ w=w':=by
 have h:=zmv A n c 0 l w hn hl (by unfold U16;omega) hs
 rw[show (((0:Nat)):Int)=0 from rfl] at h
 have HH:=zak h
 clear h hn
 go_enter Try.func66,Try.ntmps66
 go_wp2_with fail
 refine HH.out.mono ?_
 rintro e w1 ⟨rfl,rfl⟩
 go_wp2_with fail
 go_ret
 exact⟨rfl,rfl⟩
end
end Go.Proofs.Ythdbckbpldlkeaa
