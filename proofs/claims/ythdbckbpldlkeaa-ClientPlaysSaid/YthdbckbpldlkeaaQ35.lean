/- None -/
import Derived.Test.YthdbckbpldlkeaaQ34
namespace Go.Proofs.Ythdbckbpldlkeaa
set_option linter.unusedVariables false
set_option linter.unusedSimpArgs false
set_option linter.unnecessarySimpa false
section
open Go.RowKit Go.Maps
set_option maxRecDepth 100000
set_option maxHeartbeats 8000000
section
variable {w0:World} {G:Nat→Prop} {p:Nat} {ks:List KB} {rs:List RB}
theorem zmh (T:RCli) (R:RR) (W:World) (h:RM w0 G p (rclL T R) ks rs W) (hnd:1≤T.nd∧T.nd≤127) (hb:⟨R.A,R.n,R.c,T.b⟩ ∈ rs) (hd:⟨R.A2,R.n2,R.c2,T.data⟩ ∈ rs) (hl:T.b.length≤1000000) (hyp:7 < R.n) :
 Calls Try.prog 62 #[.pointer (some ⟨p,0,none⟩)] W (zli w0 G p (rSegS T) (rSegL T)):= by
 obtain⟨A,n,c,A2,n2,c2⟩:= R
 dsimp only at hb hd hyp
 have hn:n=T.b.length:=h.rn hb
 have hc:n≤c:=h.rc hb
 have hnl:n≤1000000:=by omega
 have HN:=zak hn
 have HND:=zak hnd
 have HB:=zak hb
 have HDD:=zak hd
 obtain⟨P,hP⟩:∃ P,P=zli w0 G p (rSegS T) (rSegL T):= ⟨_,rfl⟩
 have HP:Hid (P=zli w0 G p { T with la:=false,b:=T.b.drop 7,wk:=13 } (rSend T [dsegM T.tg false (T.b.take 7)])):= zak (by
  rw[hP]
  unfold rSegS rSegL
  rw[show min T.b.length 7=7 by omega,show decide (7=T.b.length)=false by simp;omega])
 rw[← hP]
 have H1:=zak (h.set 8 (.bool false))
 have b4:W.cell? ⟨p,4,none⟩=some (.slice A n c):= h.blk.cell 4 rfl
 have b8:W.cell? ⟨p,8,none⟩=some (.bool T.la):= h.blk.cell 8 rfl
 have f8:=h.blk.frozen 8
 have z0:=h.lt
 have hgt:(7:Int) < (n:Int):= by omega
 have hse:((7:Int) == (n:Int))=false:=by simp;omega
 clear h hnd hb hd hP hn hl
 go_enter Try.func62,Try.ntmps62
 go_upto_region 5 with fail
 refine zcn (P:=RM w0 G p (rclL { T with la:=false } ⟨A,n,c,A2,n2,c2⟩) ks rs) H1.out (fun W1 h1=>?_)
 clear H1 b4 b8 f8 z0
 have H1:=zak h1
 have HS1:=zak (h1.sl HB.out)
 have b7:W1.cell? ⟨p,7,none⟩=some (.bool T.tg):= h1.blk.cell 7 rfl
 have b8:W1.cell? ⟨p,8,none⟩=some (.bool false):= h1.blk.cell 8 rfl
 have b4:W1.cell? ⟨p,4,none⟩=some (.slice A n c):= h1.blk.cell 4 rfl
 have zp1:=h1.lt
 have hcut:=fun W=>zgo A n c 7 (7) .i64 rfl (by omega) W
 clear h1
 go_cut [4] (fun s wx=>MkC W1 (dsegM T.tg false (T.b.take 7)) 7 (T.b.take 7) s wx)
 case first=>
  refine wp_region_held_drew (S:=(fun w'=>(∀ qA:Addr,qA.block < (W1).heap.size→w'.cell? qA=(W1).cell? qA)∧ Below (W1).heap.size (W1) w')) (by kernel_rfl) ?hS1 (fun hHeld=>?rest1)
  case hS1=>((try dsimp only);(((try go_split_ands);refine zbn ?_;all_goals exact bl)))
  case' rest1=>skip
  iterate 14 (refine tkN ?_;try simp only[PqL,Act.put])
  refine wpAnyH_ready (rs:= [14,16]) (by kernel_rfl) (by simp) (AllReadyH.cons (o:=_) rfl (fun K hK=>?_) (AllReadyH.cons (o:=_) rfl (fun K hK=>?_) .nil))
  · go_simp
    refine (zlg A 7 c (T.b.take 7) _ (by simp;have:=HN.out;omega) (by omega) (by rw[List.map_take];exact (HS1.out.take _).below (Below.drew (Below.refl _ _)))).mono ?_
    rintro e w3 ⟨A5,c5,rfl,hO5,hb5⟩
    dsimp only
    replace hb5:=zma hb5
    have HO5:=zak (hO5.mono (B':=W1.heap.size) (Nat.le_refl _))
    clear hO5
    refine hK.out _ _ ?hS17 (fun hHeld=>?rest17)
    case hS17=>((try dsimp only);(((try go_split_ands);refine zbn ?_;all_goals exact bl)))
    case' rest17=>(clear hK K;try simp only[PqL,Act.put])
    refine tkH 15 ?_
    try simp only[PqL,Act.put]
    refine wpAnyH_ready (rs:= [16]) (by kernel_rfl) (by simp) ?_
    refine AllReadyH.cons (o:=_) rfl (fun K hK=>?_) .nil
    go_simp
    refine hK.out _ _ ?hS21 (fun hHeld=>?rest21)
    case hS21=>((try dsimp only);(((try go_split_ands);refine zbn ?_;all_goals exact bl)))
    case' rest21=>(clear hK K;try simp only[PqL,Act.put])
    refine wpAnyH_ready (rs:= [17]) (by kernel_rfl) (by simp) ?_
    refine AllReadyH.cons (o:=_) rfl (fun K hK=>?_) .nil
    go_simp
    refine hK.out _ _ ?hS24 (fun hHeld=>?rest24)
    case hS24=>((try dsimp only);(((try go_split_ands);refine zbn ?_;all_goals exact bl)))
    case' rest24=>(clear hK K;try simp only[PqL,Act.put])
    refine wpAnyH_done (by kernel_rfl) ?_ _
    have hEnd:=hHeld.2
    repeat (clear hHeld)
    go_wp2_with fail
    go_meet
    exact zmd (M:=(dsegM T.tg false (T.b.take 7))) hb5 HO5.out
  · go_simp
    refine hK.out _ _ ?hS26 (fun hHeld=>?rest26)
    case hS26=>((try dsimp only);(((try go_split_ands);refine zbn ?_;all_goals exact bl)))
    case' rest26=>(clear hK K;try simp only[PqL,Act.put])
    refine wpAnyH_ready (rs:= [14]) (by kernel_rfl) (by simp) ?_
    refine AllReadyH.cons (o:=_) rfl (fun K hK=>?_) .nil
    go_simp
    refine (zlg A 7 c (T.b.take 7) _ (by simp;have:=HN.out;omega) (by omega) (by rw[List.map_take];exact (HS1.out.take _).below bl)).mono ?_
    rintro e w3 ⟨A5,c5,rfl,hO5,hb4⟩
    dsimp only
    have hb5:Below W1.heap.size W1 w3:=zmb (z:= .cells (msV msZr none 0 0) 72) (by simpa [msV,msZr] using hb4)
    have hZ3:Blk w3 W1.heap.size 72 (msV msZr none 0 0):= zmc (by simpa [msV,msZr] using hb4)
    have HZ3:=zak hZ3
    have HO5:Hid (zb7 w3 (W1.heap.size+1) A5 7 c5 (T.b.take 7)):= zak (hO5.mono (by simp))
    unfold msV msZr at hZ3
    obtain⟨hZ3_c0,hZ3_c1,hZ3_c2,hZ3_c3,hZ3_c4,hZ3_c5,hZ3_c6,hZ3_c7,hZ3_c8,hZ3_c9,hZ3_c10,hZ3_c11,hZ3_c12,hZ3_c13⟩:= zbs hZ3
    have hZ3_f:=hZ3.frozen
    clear hO5 hb4
    refine hK.out _ _ ?hS29 (fun hHeld=>?rest29)
    case hS29=>((try dsimp only);(((try go_split_ands);refine zbn ?_;all_goals exact bl)))
    case' rest29=>(clear hK K;try simp only[PqL,Act.put])
    refine tkH 15 ?_
    try simp only[PqL,Act.put]
    refine wpAnyH_ready (rs:= [17]) (by kernel_rfl) (by simp) ?_
    refine AllReadyH.cons (o:=_) rfl (fun K hK=>?_) .nil
    go_simp
    refine hK.out _ _ ?hS33 (fun hHeld=>?rest33)
    case hS33=>((try dsimp only);(((try go_split_ands);refine zbn ?_;all_goals exact bl)))
    case' rest33=>(clear hK K;try simp only[PqL,Act.put])
    refine wpAnyH_done (by kernel_rfl) ?_ _
    have hEnd:=hHeld.2
    repeat (clear hHeld)
    go_wp2_with fail
    go_meet
    have F:=zme (M:=(dsegM T.tg false (T.b.take 7))) hb5 HZ3.out HO5.out
    simp only[World.setCells,rmL,dsegM,Nat.reduceAdd] at F
    exact F
 case rest=>
  obtain⟨gk,A5,c5,rfl,hgk,hb5,hKb,hO5⟩:= hcut
  have hgp:gk≠p:=by omega
  have HX4:=zak (((H1.out.step hb5).add gk 72 (rmL (dsegM T.tg false (T.b.take 7)) A5 7 c5) hgp hKb).row (hO5.mono H1.out.size))
  have ok:=HX4.out.k0
  unfold rmL dsegM at ok
  have zo:=ok.lt
  have zb:=HX4.out.lt
  have d4:wc.cell? ⟨p,4,none⟩=some (.slice A n c):= HX4.out.blk.cell 4 rfl
  have e4:=HX4.out.blk.frozen 4
  have d1:wc.cell? ⟨p,1,none⟩=some (.int .i64 T.wk):= HX4.out.blk.cell 1 rfl
  have e1:=HX4.out.blk.frozen 1
  obtain⟨ok_c0,ok_c1,ok_c2,ok_c3,ok_c4,ok_c5,ok_c6,ok_c7,ok_c8,ok_c9,ok_c10,ok_c11,ok_c12,ok_c13⟩:= zbs ok
  have ok_f:=ok.frozen
  obtain⟨nr,hnr⟩:∃ nr,nr=n - 7:=⟨_,rfl⟩
  have hcutl:∀ W,(Instr.slice 32 (.slice A n c) (some (.int .i64 (7:Int))) none none).run Try.prog W= .ok (.slice (cutA A c 7 1) nr (c - 7)) W:=fun W=>by have:=zcb A n c 7 (7:Int) .i64 rfl (by omega) hc W;rw[← hnr] at this;exact this
  have X9:RM w0 G p (rclL { T with la:=false,b:=T.b.drop 7,wk:=13 } ⟨cutA A c 7 1,nr,c - 7,A2,n2,c2⟩) _ (⟨cutA A c 7 1,nr,c - 7,T.b.drop 7⟩ :: ⟨A5,7,c5,T.b.take 7⟩ :: rs) _:=((HX4.out.rowcut (A:=A) (n:=n) (c:=c) (l:=T.b) (by simp;exact .inr HB.out) 7 nr (by omega) hnr).set 4 (.slice (cutA A c 7 1) nr (c - 7))).set 1 (.int .i64 13)
  have HX9:=zak X9
  have HS9:=zak (zln (p:=p) T.nd (dsegM T.tg false (T.b.take 7)) A5 7 c5 _ (X9.blk.cell 0 rfl) HND.out (by simp[dsegM];have:=HN.out;omega) (X9.sl (A:=A5) (n:=7) (c:=c5) (l:=T.b.take 7) (by simp)) ⟨Nat.zero_le _,Nat.zero_le _,Nat.zero_le _⟩)
  unfold msV dsegM at HS9
  clear X9 hnr hcut hO5 hKb b4 b7 b8
  go_wp2_with fail
  refine HS9.out.mono ?_
  rintro e w6 ⟨As,ns,cs,ds,rfl,hO,hb⟩
  have HF:=zak (zlk (T:={ T with la:=false,b:=T.b.drop 7,wk:=13 }) (R:=⟨cutA A c 7 1,nr,c - 7,A2,n2,c2⟩) HX9.out (by simp) (by simp;exact .inr (.inr HDD.out)) ⟨As,ns,cs,ds,rfl,hO,hb⟩)
  clear hO hb
  go_wp2_with fail
  rw[HP.out]
  exact HF.out
theorem zmi (T:RCli) (R:RR) (W:World) (h:RM w0 G p (rclL T R) ks rs W) (hnd:1≤T.nd∧T.nd≤127) (hb:⟨R.A,R.n,R.c,T.b⟩ ∈ rs) (hd:⟨R.A2,R.n2,R.c2,T.data⟩ ∈ rs) (hl:T.b.length≤1000000) (hyp: ¬ 7 < R.n) :
 Calls Try.prog 62 #[.pointer (some ⟨p,0,none⟩)] W (zli w0 G p (rSegS T) (rSegL T)):= by
 obtain⟨A,n,c,A2,n2,c2⟩:= R
 dsimp only at hb hd hyp
 have hn:n=T.b.length:=h.rn hb
 have hc:n≤c:=h.rc hb
 have hnl:n≤1000000:=by omega
 have HN:=zak hn
 have HND:=zak hnd
 have HB:=zak hb
 have HDD:=zak hd
 obtain⟨P,hP⟩:∃ P,P=zli w0 G p (rSegS T) (rSegL T):= ⟨_,rfl⟩
 have HP:Hid (P=zli w0 G p { T with la:=true,b:=T.b.drop n,wk:=13 } (rSend T [dsegM T.tg true (T.b.take n)])):= zak (by
  rw[hP]
  unfold rSegS rSegL
  rw[show min T.b.length 7=n by omega,show decide (n=T.b.length)=true by simp[hn]])
 rw[← hP]
 have H1:=zak (h.set 8 (.bool true))
 have b4:W.cell? ⟨p,4,none⟩=some (.slice A n c):= h.blk.cell 4 rfl
 have b8:W.cell? ⟨p,8,none⟩=some (.bool T.la):= h.blk.cell 8 rfl
 have f8:=h.blk.frozen 8
 have z0:=h.lt
 have hgt: ¬ (7:Int) < (n:Int):= by omega
 clear h hnd hb hd hP hn hl
 go_enter Try.func62,Try.ntmps62
 go_upto_region 5 with fail
 refine zcn (P:=RM w0 G p (rclL { T with la:=true } ⟨A,n,c,A2,n2,c2⟩) ks rs) H1.out (fun W1 h1=>?_)
 clear H1 b4 b8 f8 z0
 have H1:=zak h1
 have HS1:=zak (h1.sl HB.out)
 have b7:W1.cell? ⟨p,7,none⟩=some (.bool T.tg):= h1.blk.cell 7 rfl
 have b8:W1.cell? ⟨p,8,none⟩=some (.bool true):= h1.blk.cell 8 rfl
 have b4:W1.cell? ⟨p,4,none⟩=some (.slice A n c):= h1.blk.cell 4 rfl
 have zp1:=h1.lt
 have hcut:=fun W=>zgo A n c n ((n:Int)) .i64 rfl (by omega) W
 clear h1
 go_cut [4] (fun s wx=>MkC W1 (dsegM T.tg true (T.b.take n)) n (T.b.take n) s wx)
 case first=>
  refine wp_region_held_drew (S:=(fun w'=>(∀ qA:Addr,qA.block < (W1).heap.size→w'.cell? qA=(W1).cell? qA)∧ Below (W1).heap.size (W1) w')) (by kernel_rfl) ?hS35 (fun hHeld=>?rest35)
  case hS35=>((try dsimp only);(((try go_split_ands);refine zbn ?_;all_goals exact bl)))
  case' rest35=>skip
  iterate 14 (refine tkN ?_;try simp only[PqL,Act.put])
  refine wpAnyH_ready (rs:= [14,16]) (by kernel_rfl) (by simp) (AllReadyH.cons (o:=_) rfl (fun K hK=>?_) (AllReadyH.cons (o:=_) rfl (fun K hK=>?_) .nil))
  · go_simp
    refine (zlg A n c (T.b.take n) _ (by simp;have:=HN.out;omega) (by omega) (by rw[List.map_take];exact (HS1.out.take _).below (Below.drew (Below.refl _ _)))).mono ?_
    rintro e w3 ⟨A5,c5,rfl,hO5,hb5⟩
    dsimp only
    replace hb5:=zma hb5
    have HO5:=zak (hO5.mono (B':=W1.heap.size) (Nat.le_refl _))
    clear hO5
    refine hK.out _ _ ?hS51 (fun hHeld=>?rest51)
    case hS51=>((try dsimp only);(((try go_split_ands);refine zbn ?_;all_goals exact bl)))
    case' rest51=>(clear hK K;try simp only[PqL,Act.put])
    refine tkH 15 ?_
    try simp only[PqL,Act.put]
    refine wpAnyH_ready (rs:= [16]) (by kernel_rfl) (by simp) ?_
    refine AllReadyH.cons (o:=_) rfl (fun K hK=>?_) .nil
    go_simp
    refine hK.out _ _ ?hS55 (fun hHeld=>?rest55)
    case hS55=>((try dsimp only);(((try go_split_ands);refine zbn ?_;all_goals exact bl)))
    case' rest55=>(clear hK K;try simp only[PqL,Act.put])
    refine wpAnyH_ready (rs:= [17]) (by kernel_rfl) (by simp) ?_
    refine AllReadyH.cons (o:=_) rfl (fun K hK=>?_) .nil
    go_simp
    refine hK.out _ _ ?hS58 (fun hHeld=>?rest58)
    case hS58=>((try dsimp only);(((try go_split_ands);refine zbn ?_;all_goals exact bl)))
    case' rest58=>(clear hK K;try simp only[PqL,Act.put])
    refine wpAnyH_done (by kernel_rfl) ?_ _
    have hEnd:=hHeld.2
    repeat (clear hHeld)
    go_wp2_with fail
    go_meet
    exact zmd (M:=(dsegM T.tg true (T.b.take n))) hb5 HO5.out
  · go_simp
    refine hK.out _ _ ?hS60 (fun hHeld=>?rest60)
    case hS60=>((try dsimp only);(((try go_split_ands);refine zbn ?_;all_goals exact bl)))
    case' rest60=>(clear hK K;try simp only[PqL,Act.put])
    refine wpAnyH_ready (rs:= [14]) (by kernel_rfl) (by simp) ?_
    refine AllReadyH.cons (o:=_) rfl (fun K hK=>?_) .nil
    go_simp
    refine (zlg A n c (T.b.take n) _ (by simp;have:=HN.out;omega) (by omega) (by rw[List.map_take];exact (HS1.out.take _).below bl)).mono ?_
    rintro e w3 ⟨A5,c5,rfl,hO5,hb4⟩
    dsimp only
    have hb5:Below W1.heap.size W1 w3:=zmb (z:= .cells (msV msZr none 0 0) 72) (by simpa [msV,msZr] using hb4)
    have hZ3:Blk w3 W1.heap.size 72 (msV msZr none 0 0):= zmc (by simpa [msV,msZr] using hb4)
    have HZ3:=zak hZ3
    have HO5:Hid (zb7 w3 (W1.heap.size+1) A5 n c5 (T.b.take n)):= zak (hO5.mono (by simp))
    unfold msV msZr at hZ3
    obtain⟨hZ3_c0,hZ3_c1,hZ3_c2,hZ3_c3,hZ3_c4,hZ3_c5,hZ3_c6,hZ3_c7,hZ3_c8,hZ3_c9,hZ3_c10,hZ3_c11,hZ3_c12,hZ3_c13⟩:= zbs hZ3
    have hZ3_f:=hZ3.frozen
    clear hO5 hb4
    refine hK.out _ _ ?hS63 (fun hHeld=>?rest63)
    case hS63=>((try dsimp only);(((try go_split_ands);refine zbn ?_;all_goals exact bl)))
    case' rest63=>(clear hK K;try simp only[PqL,Act.put])
    refine tkH 15 ?_
    try simp only[PqL,Act.put]
    refine wpAnyH_ready (rs:= [17]) (by kernel_rfl) (by simp) ?_
    refine AllReadyH.cons (o:=_) rfl (fun K hK=>?_) .nil
    go_simp
    refine hK.out _ _ ?hS67 (fun hHeld=>?rest67)
    case hS67=>((try dsimp only);(((try go_split_ands);refine zbn ?_;all_goals exact bl)))
    case' rest67=>(clear hK K;try simp only[PqL,Act.put])
    refine wpAnyH_done (by kernel_rfl) ?_ _
    have hEnd:=hHeld.2
    repeat (clear hHeld)
    go_wp2_with fail
    go_meet
    have F:=zme (M:=(dsegM T.tg true (T.b.take n))) hb5 HZ3.out HO5.out
    simp only[World.setCells,rmL,dsegM,Nat.reduceAdd] at F
    exact F
 case rest=>
  obtain⟨gk,A5,c5,rfl,hgk,hb5,hKb,hO5⟩:= hcut
  have hgp:gk≠p:=by omega
  have HX4:=zak (((H1.out.step hb5).add gk 72 (rmL (dsegM T.tg true (T.b.take n)) A5 n c5) hgp hKb).row (hO5.mono H1.out.size))
  have ok:=HX4.out.k0
  unfold rmL dsegM at ok
  have zo:=ok.lt
  have zb:=HX4.out.lt
  have d4:wc.cell? ⟨p,4,none⟩=some (.slice A n c):= HX4.out.blk.cell 4 rfl
  have e4:=HX4.out.blk.frozen 4
  have d1:wc.cell? ⟨p,1,none⟩=some (.int .i64 T.wk):= HX4.out.blk.cell 1 rfl
  have e1:=HX4.out.blk.frozen 1
  obtain⟨ok_c0,ok_c1,ok_c2,ok_c3,ok_c4,ok_c5,ok_c6,ok_c7,ok_c8,ok_c9,ok_c10,ok_c11,ok_c12,ok_c13⟩:= zbs ok
  have ok_f:=ok.frozen
  obtain⟨nr,hnr⟩:∃ nr,nr=n - n:=⟨_,rfl⟩
  have hcutl:∀ W,(Instr.slice 32 (.slice A n c) (some (.int .i64 ((n:Int):Int))) none none).run Try.prog W= .ok (.slice (cutA A c n 1) nr (c - n)) W:=fun W=>by have:=zcb A n c n ((n:Int):Int) .i64 rfl (by omega) hc W;rw[← hnr] at this;exact this
  have X9:RM w0 G p (rclL { T with la:=true,b:=T.b.drop n,wk:=13 } ⟨cutA A c n 1,nr,c - n,A2,n2,c2⟩) _ (⟨cutA A c n 1,nr,c - n,T.b.drop n⟩ :: ⟨A5,n,c5,T.b.take n⟩ :: rs) _:=((HX4.out.rowcut (A:=A) (n:=n) (c:=c) (l:=T.b) (by simp;exact .inr HB.out) n nr (by omega) hnr).set 4 (.slice (cutA A c n 1) nr (c - n))).set 1 (.int .i64 13)
  have HX9:=zak X9
  have HS9:=zak (zln (p:=p) T.nd (dsegM T.tg true (T.b.take n)) A5 n c5 _ (X9.blk.cell 0 rfl) HND.out (by simp[dsegM];have:=HN.out;omega) (X9.sl (A:=A5) (n:=n) (c:=c5) (l:=T.b.take n) (by simp)) ⟨Nat.zero_le _,Nat.zero_le _,Nat.zero_le _⟩)
  unfold msV dsegM at HS9
  clear X9 hnr hcut hO5 hKb b4 b7 b8
  go_wp2_with fail
  refine HS9.out.mono ?_
  rintro e w6 ⟨As,ns,cs,ds,rfl,hO,hb⟩
  have HF:=zak (zlk (T:={ T with la:=true,b:=T.b.drop n,wk:=13 }) (R:=⟨cutA A c n 1,nr,c - n,A2,n2,c2⟩) HX9.out (by simp) (by simp;exact .inr (.inr HDD.out)) ⟨As,ns,cs,ds,rfl,hO,hb⟩)
  clear hO hb
  go_wp2_with fail
  rw[HP.out]
  exact HF.out
theorem zmj (T:RCli) (R:RR) (W:World) (h:RM w0 G p (rclL T R) ks rs W) (hnd:1≤T.nd∧T.nd≤127) (hb:⟨R.A,R.n,R.c,T.b⟩ ∈ rs) (hd:⟨R.A2,R.n2,R.c2,T.data⟩ ∈ rs) (hl:T.b.length≤1000000) :
 Calls Try.prog 62 #[.pointer (some ⟨p,0,none⟩)] W (zli w0 G p (rSegS T) (rSegL T)):= by
 by_cases h7:7 < R.n
 · exact zmh T R W h hnd hb hd hl h7
 · exact zmi T R W h hnd hb hd hl h7
end
end
end Go.Proofs.Ythdbckbpldlkeaa
