/- None -/
import Derived.Test.YtkkpjbjmhaecjaaGreatT41
namespace Go.Proofs.YtkkpjbjmhaecjaaGreat
set_option linter.all false
set_option maxRecDepth 100000
set_option maxHeartbeats 8000000
section
open Go.RowKit Go.Maps
section
variable {w0:World} {G:Nat→Prop} {p m:Nat} {ks:List KB} {rs:List RB}
def cHereB (S:CliS) (M:Ms):Bool:=decide (M.ix=S.ix) && decide (M.sub=S.sub)
theorem zwv (S:CliS)(R:CR)(M:Ms)(A:Option Addr)(n c:Nat)(W:World)(h:CM w0 G p m S.wk (cliL S m R) ks rs W)(hw:0≤S.wk∧S.wk≤21)(hk:12≤M.kind∧M.kind≤21) :
 Calls Tryz.prog 141 #[.pointer (some ⟨p,0,none⟩),.agg (msV M A n c)] W fun e W'=>e= .returned (.bool (cFitB S M))∧ Below W.heap.size W W':=by
 have H1:=zak (h.new 95 (msV M A n c).toList (by decide));have HBL:=zak (zc5 (Below.refl W.heap.size W) (.cells (msV M A n c) 95));have HW:=zak hw;have HK:=zak hk;have HF:Hid (cFitB S M=(decide (S.wk=M.kind) && (if M.kind=12∨M.kind=14∨M.kind=19 then cHereB S M else if M.kind=16 then cHereB S M && decide (0 < M.bl) else if M.kind=13∨M.kind=15 then M.tg == S.tg else if M.kind=17 then decide (0 < M.bl) && decide (M.sq≤S.ro) else true))):=zak rfl;have H1':Hid (CM w0 G p m S.wk (cliL S m R) (⟨W.heap.size,95,(msV M A n c).toList⟩ :: ks) rs (W.alloc (.cells (msV M A n c) 95))):=H1;clear h hw hk H1;obtain⟨P,hP⟩:∃P,P=(fun (e:Ending) (W':World)=> e= .returned (.bool (cFitB S M))∧ Below W.heap.size W W'):=⟨_,rfl⟩
 rw[←hP];have HP:=zak hP;clear hP;unfold msV at H1' HBL;unfold msV;go_enter Tryz.func141,Tryz.ntmps141
 go_upto_region 1 with fail
 refine zed (P:=fun W1=>CM w0 G p m S.wk (cliL S m R) (⟨W.heap.size,95,(msV M A n c).toList⟩ :: ks) rs W1∧Below W.heap.size W W1) ⟨by exact H1'.out,HBL.out⟩ (fun W1 h1=>?_);clear H1' HBL;obtain⟨h1,hbl⟩:=h1;obtain⟨g,hg⟩:∃g,g=W.heap.size:=⟨_,rfl⟩;rw[←hg] at h1;have HG:=zak hg;rw[←hg];have HBL:=zak hbl;have H1:=zak h1;have z1:=h1.lt;have q:Blk W1 g 95 (msV M A n c):=h1.k0;have zg:=q.lt;have qk:W1.cell? ⟨g,0,none⟩=some (.int .i64 M.kind):=q.cell 0 rfl;have q1:W1.cell? ⟨g,1,none⟩=some (.int .i64 M.ix):=q.cell 1 rfl;have q2:W1.cell? ⟨g,2,none⟩=some (.int .i64 M.sub):=q.cell 2 rfl;have q3:W1.cell? ⟨g,3,none⟩=some (.bool M.tg):=q.cell 3 rfl
 have q10:W1.cell? ⟨g,10,none⟩=some (.int .i64 M.sq):=q.cell 10 rfl;have q11:W1.cell? ⟨g,11,none⟩=some (.int .i64 M.bl):=q.cell 11 rfl;have b4:W1.cell? ⟨p,4,none⟩=some (.int .i64 S.ix):=h1.blk.cell 4 rfl;have b5:W1.cell? ⟨p,5,none⟩=some (.int .i64 S.sub):=h1.blk.cell 5 rfl;have b19:W1.cell? ⟨p,19,none⟩=some (.int .i64 S.ro):=h1.blk.cell 19 rfl;have b20:W1.cell? ⟨p,20,none⟩=some (.bool S.tg):=h1.blk.cell 20 rfl;obtain⟨kind,hkd⟩:∃k,k=M.kind:=⟨_,rfl⟩;have HKD:=zak hkd;rw[←hkd] at qk HF HK;clear q h1 hbl hg hkd;obtain⟨hb,hhb⟩:∃hb,hb=cHereB S M:=⟨_,rfl⟩;rw[←hhb] at HF;have HHB:=zak hhb;clear hhb;go_cut [5,6,7,8,9,10,11,12,13,14,15,16,17,18,19,20,21,22,23] (fun v5 _ _ _ _ _ _ _ _ _ _ _ _ _ _ _ _ _ _ wx=>v5= .bool hb∧ ∃k,wx=W1.drewN k)
 case first=>
  by_cases e1:M.ix=S.ix
  · by_cases e2:M.sub=S.sub
    · have E:Hid (hb=true):=zak (by rw[HHB.out];unfold cHereB;simp[e1,e2]);have d1:(M.ix == S.ix)=true:=by simp[e1]
      have d2:(M.sub == S.sub)=true:=by simp[e2]
      clear e1 e2
      go_quiet (fail)
      go_wp2_with fail
      go_meet
      exact⟨by rw[E.out],_,rfl⟩
    · have E:Hid (hb=false):=zak (by rw[HHB.out];unfold cHereB;simp[e2]);have d1:(M.ix == S.ix)=true:=by simp[e1]
      have d2:(M.sub == S.sub)=false:=by simp[e2]
      clear e1 e2
      go_quiet (fail)
      go_wp2_with fail
      go_meet
      exact⟨by rw[E.out],_,rfl⟩
  · have E:Hid (hb=false):=zak (by rw[HHB.out];unfold cHereB;simp[e1]);have d1:(M.ix == S.ix)=false:=by simp[e1]
    clear e1
    go_quiet (fail)
    go_wp2_with fail
    go_meet
    exact⟨by rw[E.out],_,rfl⟩
 case rest=>
  obtain⟨rfl,kd,rfl⟩:=hcut;have HC2:Hid (∀k,CM w0 G p m S.wk (cliL S m R) (⟨g,95,(msV M A n c).toList⟩ :: ks) rs (W1.drewN k)):=zak (fun k=>H1.out.step (zdq (Below.refl _ _) k));have hK:=HK.out;have hcs:kind=12∨kind=13∨kind=14∨kind=15∨kind=16∨kind=17∨kind=18∨kind=19∨kind=20∨kind=21:=by omega
  clear HHB hK HK H1;rcases hcs with rfl | rfl | rfl | rfl | rfl | rfl | rfl | rfl | rfl | rfl
  · by_cases hw:S.wk=12
    · have dw:decide (S.wk=12)=true:=decide_eq_true hw;have HWV:=zak hw;clear hw;cases hb
      · skip
        go_wp2_with fail
        refine (zen 12 _ (HC2.out _) rfl HW.out ⟨by omega,by omega⟩ (by omega)).mono ?_;rintro e W2 ⟨rfl,rfl⟩;rw[dw];go_wp2_with fail
        have hbl:=HBL.out;rw[HP.out];exact⟨by rw[HF.out];simp[HWV.out]<;> omega,kBl⟩
      · skip
        go_wp2_with fail
        refine (zen 12 _ (HC2.out _) rfl HW.out ⟨by omega,by omega⟩ (by omega)).mono ?_;rintro e W2 ⟨rfl,rfl⟩;rw[dw];go_wp2_with fail
        have hbl:=HBL.out;rw[HP.out];exact⟨by rw[HF.out];simp[HWV.out]<;> omega,kBl⟩
    · have dw:decide (S.wk=12)=false:=decide_eq_false hw;have HWV:=zak hw;clear hw;go_wp2_with fail
      refine (zen 12 _ (HC2.out _) rfl HW.out ⟨by omega,by omega⟩ (by omega)).mono ?_;rintro e W2 ⟨rfl,rfl⟩;rw[dw];go_wp2_with fail
      have hbl:=HBL.out;rw[HP.out];exact⟨by rw[HF.out];simp[HWV.out]<;> omega,kBl⟩
  · by_cases hw:S.wk=13
    · have dw:decide (S.wk=13)=true:=decide_eq_true hw;have HWV:=zak hw;clear hw;go_upto_region 11 with fail
      refine zed (P:=fun W2=>CM w0 G p m S.wk (cliL S m R) (⟨g,95,(msV M A n c).toList⟩ :: ks) rs W2∧Below W.heap.size W W2) ⟨HC2.out _,by have hbl:=HBL.out;exact kBl⟩ (fun W2 hW2=>?_);clear q1 q2 q3 q10 q11 b4 b5 b19 b20 z1 zg qk;obtain⟨h2,hbl2⟩:=hW2;have HBL2:=zak hbl2;have H2:=zak h2;have z1:=h2.lt;have q:Blk W2 g 95 (msV M A n c):=h2.k0;have zg:=q.lt;have qk:W2.cell? ⟨g,0,none⟩=some (.int .i64 M.kind):=q.cell 0 rfl;rw[←HKD.out] at qk;have q3:W2.cell? ⟨g,3,none⟩=some (.bool M.tg):=q.cell 3 rfl;have b20:W2.cell? ⟨p,20,none⟩=some (.bool S.tg):=h2.blk.cell 20 rfl;clear q h2 hbl2;refine wp_region_held_drew (S:=(fun w'=>(∀qA:Addr,qA.block < (W2).heap.size→w'.cell? qA=(W2).cell? qA)∧ Below (W2).heap.size (W2) w')) (by kernel_rfl) ?hS1 (fun hHeld=>?rest1)
      case hS1=>exact kSn
      case' rest1=>skip
      iterate 3 (refine tkN ?_;try simp only[PqL,Act.put])
      refine kRd 3 (fun K hK=>?_)
      go_simp
      refine (zen 13 _ (H2.out.step kBl) rfl HW.out ⟨by omega,by omega⟩ (by omega)).mono ?_;rintro e W3 ⟨rfl,rfl⟩;rw[dw];refine hK.out _ _ ?hS7 (fun hHeld=>?rest7)
      case hS7=>exact kSn
      case' rest7=>(clear hK K;try simp only[PqL,Act.put])
      refine tkH 4 ?_;try simp only[PqL,Act.put]
      refine tkH 5 ?_;try simp only[PqL,Act.put]
      refine tkH 6 ?_;try simp only[PqL,Act.put]
      refine tkH 7 ?_;try simp only[PqL,Act.put]
      refine tkH 8 ?_;try simp only[PqL,Act.put]
      refine tkH 9 ?_;try simp only[PqL,Act.put]
      refine tkH 10 ?_;try simp only[PqL,Act.put]
      refine tkH 11 ?_;try simp only[PqL,Act.put]
      refine tkH 12 ?_;try simp only[PqL,Act.put]
      refine tkH 13 ?_;try simp only[PqL,Act.put]
      refine wpAnyH_done (by kernel_rfl) ?_ _;have hEnd:=hHeld.2
      repeat (clear hHeld)
      go_wp2_with fail
      have hbl:=HBL2.out;rw[HP.out];exact⟨by rw[HF.out];simp[HWV.out]<;> omega,kBl⟩
    · have dw:decide (S.wk=13)=false:=decide_eq_false hw;have HWV:=zak hw;clear hw;go_upto_region 11 with fail
      refine zed (P:=fun W2=>CM w0 G p m S.wk (cliL S m R) (⟨g,95,(msV M A n c).toList⟩ :: ks) rs W2∧Below W.heap.size W W2) ⟨HC2.out _,by have hbl:=HBL.out;exact kBl⟩ (fun W2 hW2=>?_);clear q1 q2 q3 q10 q11 b4 b5 b19 b20 z1 zg qk;obtain⟨h2,hbl2⟩:=hW2;have HBL2:=zak hbl2;have H2:=zak h2;have z1:=h2.lt;have q:Blk W2 g 95 (msV M A n c):=h2.k0;have zg:=q.lt;have qk:W2.cell? ⟨g,0,none⟩=some (.int .i64 M.kind):=q.cell 0 rfl;rw[←HKD.out] at qk;have q3:W2.cell? ⟨g,3,none⟩=some (.bool M.tg):=q.cell 3 rfl;have b20:W2.cell? ⟨p,20,none⟩=some (.bool S.tg):=h2.blk.cell 20 rfl;clear q h2 hbl2;refine wp_region_held_drew (S:=(fun w'=>(∀qA:Addr,qA.block < (W2).heap.size→w'.cell? qA=(W2).cell? qA)∧ Below (W2).heap.size (W2) w')) (by kernel_rfl) ?hS19 (fun hHeld=>?rest19)
      case hS19=>exact kSn
      case' rest19=>skip
      iterate 3 (refine tkN ?_;try simp only[PqL,Act.put])
      refine kRd 3 (fun K hK=>?_)
      go_simp
      refine (zen 13 _ (H2.out.step kBl) rfl HW.out ⟨by omega,by omega⟩ (by omega)).mono ?_;rintro e W3 ⟨rfl,rfl⟩;rw[dw];refine hK.out _ _ ?hS25 (fun hHeld=>?rest25)
      case hS25=>exact kSn
      case' rest25=>(clear hK K;try simp only[PqL,Act.put])
      refine tkH 4 ?_;try simp only[PqL,Act.put]
      refine tkU 5 ?_;try simp only[PqL,Act.put]
      refine tkU 6 ?_;try simp only[PqL,Act.put]
      refine tkU 7 ?_;try simp only[PqL,Act.put]
      refine tkU 8 ?_;try simp only[PqL,Act.put]
      refine tkU 9 ?_;try simp only[PqL,Act.put]
      refine tkU 10 ?_;try simp only[PqL,Act.put]
      refine tkU 11 ?_;try simp only[PqL,Act.put]
      refine tkH 12 ?_;try simp only[PqL,Act.put]
      refine tkH 13 ?_;try simp only[PqL,Act.put]
      refine wpAnyH_done (by kernel_rfl) ?_ _;have hEnd:=hHeld.2
      repeat (clear hHeld)
      go_wp2_with fail
      have hbl:=HBL2.out;rw[HP.out];exact⟨by rw[HF.out];simp[HWV.out]<;> omega,kBl⟩
  · by_cases hw:S.wk=14
    · have dw:decide (S.wk=14)=true:=decide_eq_true hw;have HWV:=zak hw;clear hw;cases hb
      · skip
        go_wp2_with fail
        refine (zen 14 _ (HC2.out _) rfl HW.out ⟨by omega,by omega⟩ (by omega)).mono ?_;rintro e W2 ⟨rfl,rfl⟩;rw[dw];go_wp2_with fail
        have hbl:=HBL.out;rw[HP.out];exact⟨by rw[HF.out];simp[HWV.out]<;> omega,kBl⟩
      · skip
        go_wp2_with fail
        refine (zen 14 _ (HC2.out _) rfl HW.out ⟨by omega,by omega⟩ (by omega)).mono ?_;rintro e W2 ⟨rfl,rfl⟩;rw[dw];go_wp2_with fail
        have hbl:=HBL.out;rw[HP.out];exact⟨by rw[HF.out];simp[HWV.out]<;> omega,kBl⟩
    · have dw:decide (S.wk=14)=false:=decide_eq_false hw;have HWV:=zak hw;clear hw;go_wp2_with fail
      refine (zen 14 _ (HC2.out _) rfl HW.out ⟨by omega,by omega⟩ (by omega)).mono ?_;rintro e W2 ⟨rfl,rfl⟩;rw[dw];go_wp2_with fail
      have hbl:=HBL.out;rw[HP.out];exact⟨by rw[HF.out];simp[HWV.out]<;> omega,kBl⟩
  · by_cases hw:S.wk=15
    · have dw:decide (S.wk=15)=true:=decide_eq_true hw;have HWV:=zak hw;clear hw;go_upto_region 11 with fail
      refine zed (P:=fun W2=>CM w0 G p m S.wk (cliL S m R) (⟨g,95,(msV M A n c).toList⟩ :: ks) rs W2∧Below W.heap.size W W2) ⟨HC2.out _,by have hbl:=HBL.out;exact kBl⟩ (fun W2 hW2=>?_);clear q1 q2 q3 q10 q11 b4 b5 b19 b20 z1 zg qk;obtain⟨h2,hbl2⟩:=hW2;have HBL2:=zak hbl2;have H2:=zak h2;have z1:=h2.lt;have q:Blk W2 g 95 (msV M A n c):=h2.k0;have zg:=q.lt;have qk:W2.cell? ⟨g,0,none⟩=some (.int .i64 M.kind):=q.cell 0 rfl;rw[←HKD.out] at qk;have q3:W2.cell? ⟨g,3,none⟩=some (.bool M.tg):=q.cell 3 rfl;have b20:W2.cell? ⟨p,20,none⟩=some (.bool S.tg):=h2.blk.cell 20 rfl;clear q h2 hbl2;refine wp_region_held_drew (S:=(fun w'=>(∀qA:Addr,qA.block < (W2).heap.size→w'.cell? qA=(W2).cell? qA)∧ Below (W2).heap.size (W2) w')) (by kernel_rfl) ?hS37 (fun hHeld=>?rest37)
      case hS37=>exact kSn
      case' rest37=>skip
      iterate 3 (refine tkN ?_;try simp only[PqL,Act.put])
      refine kRd 3 (fun K hK=>?_)
      go_simp
      refine (zen 15 _ (H2.out.step kBl) rfl HW.out ⟨by omega,by omega⟩ (by omega)).mono ?_;rintro e W3 ⟨rfl,rfl⟩;rw[dw];refine hK.out _ _ ?hS43 (fun hHeld=>?rest43)
      case hS43=>exact kSn
      case' rest43=>(clear hK K;try simp only[PqL,Act.put])
      refine tkH 4 ?_;try simp only[PqL,Act.put]
      refine tkH 5 ?_;try simp only[PqL,Act.put]
      refine tkH 6 ?_;try simp only[PqL,Act.put]
      refine tkH 7 ?_;try simp only[PqL,Act.put]
      refine tkH 8 ?_;try simp only[PqL,Act.put]
      refine tkH 9 ?_;try simp only[PqL,Act.put]
      refine tkH 10 ?_;try simp only[PqL,Act.put]
      refine tkH 11 ?_;try simp only[PqL,Act.put]
      refine tkH 12 ?_;try simp only[PqL,Act.put]
      refine tkH 13 ?_;try simp only[PqL,Act.put]
      refine wpAnyH_done (by kernel_rfl) ?_ _;have hEnd:=hHeld.2
      repeat (clear hHeld)
      go_wp2_with fail
      have hbl:=HBL2.out;rw[HP.out];exact⟨by rw[HF.out];simp[HWV.out]<;> omega,kBl⟩
    · have dw:decide (S.wk=15)=false:=decide_eq_false hw;have HWV:=zak hw;clear hw;go_upto_region 11 with fail
      refine zed (P:=fun W2=>CM w0 G p m S.wk (cliL S m R) (⟨g,95,(msV M A n c).toList⟩ :: ks) rs W2∧Below W.heap.size W W2) ⟨HC2.out _,by have hbl:=HBL.out;exact kBl⟩ (fun W2 hW2=>?_);clear q1 q2 q3 q10 q11 b4 b5 b19 b20 z1 zg qk;obtain⟨h2,hbl2⟩:=hW2;have HBL2:=zak hbl2;have H2:=zak h2;have z1:=h2.lt;have q:Blk W2 g 95 (msV M A n c):=h2.k0;have zg:=q.lt;have qk:W2.cell? ⟨g,0,none⟩=some (.int .i64 M.kind):=q.cell 0 rfl;rw[←HKD.out] at qk;have q3:W2.cell? ⟨g,3,none⟩=some (.bool M.tg):=q.cell 3 rfl;have b20:W2.cell? ⟨p,20,none⟩=some (.bool S.tg):=h2.blk.cell 20 rfl;clear q h2 hbl2;refine wp_region_held_drew (S:=(fun w'=>(∀qA:Addr,qA.block < (W2).heap.size→w'.cell? qA=(W2).cell? qA)∧ Below (W2).heap.size (W2) w')) (by kernel_rfl) ?hS55 (fun hHeld=>?rest55)
      case hS55=>exact kSn
      case' rest55=>skip
      iterate 3 (refine tkN ?_;try simp only[PqL,Act.put])
      refine kRd 3 (fun K hK=>?_)
      go_simp
      refine (zen 15 _ (H2.out.step kBl) rfl HW.out ⟨by omega,by omega⟩ (by omega)).mono ?_;rintro e W3 ⟨rfl,rfl⟩;rw[dw];refine hK.out _ _ ?hS61 (fun hHeld=>?rest61)
      case hS61=>exact kSn
      case' rest61=>(clear hK K;try simp only[PqL,Act.put])
      refine tkH 4 ?_;try simp only[PqL,Act.put]
      refine tkU 5 ?_;try simp only[PqL,Act.put]
      refine tkU 6 ?_;try simp only[PqL,Act.put]
      refine tkU 7 ?_;try simp only[PqL,Act.put]
      refine tkU 8 ?_;try simp only[PqL,Act.put]
      refine tkU 9 ?_;try simp only[PqL,Act.put]
      refine tkU 10 ?_;try simp only[PqL,Act.put]
      refine tkU 11 ?_;try simp only[PqL,Act.put]
      refine tkH 12 ?_;try simp only[PqL,Act.put]
      refine tkH 13 ?_;try simp only[PqL,Act.put]
      refine wpAnyH_done (by kernel_rfl) ?_ _;have hEnd:=hHeld.2
      repeat (clear hHeld)
      go_wp2_with fail
      have hbl:=HBL2.out;rw[HP.out];exact⟨by rw[HF.out];simp[HWV.out]<;> omega,kBl⟩
  · by_cases hw:S.wk=16
    · have dw:decide (S.wk=16)=true:=decide_eq_true hw;have HWV:=zak hw;clear hw;cases hb
      · skip
        go_wp2_with fail
        refine (zen 16 _ (HC2.out _) rfl HW.out ⟨by omega,by omega⟩ (by omega)).mono ?_;rintro e W2 ⟨rfl,rfl⟩;rw[dw];go_wp2_with fail
        have hbl:=HBL.out;rw[HP.out];exact⟨by rw[HF.out];simp[HWV.out]<;> omega,kBl⟩
      · by_cases hbl0:0 < M.bl
        · have db:decide (0 < M.bl)=true:=decide_eq_true hbl0;go_wp2_with fail
          refine (zen 16 _ (HC2.out _) rfl HW.out ⟨by omega,by omega⟩ (by omega)).mono ?_;rintro e W2 ⟨rfl,rfl⟩;rw[dw];go_wp2_with fail
          have hbl:=HBL.out;rw[HP.out];exact⟨by rw[HF.out];simp[HWV.out,hbl0]<;> omega,kBl⟩
        · have db:decide (0 < M.bl)=false:=decide_eq_false hbl0;go_wp2_with fail
          refine (zen 16 _ (HC2.out _) rfl HW.out ⟨by omega,by omega⟩ (by omega)).mono ?_;rintro e W2 ⟨rfl,rfl⟩;rw[dw];go_wp2_with fail
          have hbl:=HBL.out;rw[HP.out];exact⟨by rw[HF.out];simp[HWV.out,hbl0]<;> omega,kBl⟩
    · have dw:decide (S.wk=16)=false:=decide_eq_false hw;have HWV:=zak hw;clear hw;go_wp2_with fail
      refine (zen 16 _ (HC2.out _) rfl HW.out ⟨by omega,by omega⟩ (by omega)).mono ?_;rintro e W2 ⟨rfl,rfl⟩;rw[dw];go_wp2_with fail
      have hbl:=HBL.out;rw[HP.out];exact⟨by rw[HF.out];simp[HWV.out]<;> omega,kBl⟩
  · by_cases hw:S.wk=17
    · have dw:decide (S.wk=17)=true:=decide_eq_true hw;have HWV:=zak hw;clear hw;by_cases hbl0:0 < M.bl
      · have db:decide (0 < M.bl)=true:=decide_eq_true hbl0;go_upto_region 13 with fail
        refine zed (P:=fun W2=>CM w0 G p m S.wk (cliL S m R) (⟨g,95,(msV M A n c).toList⟩ :: ks) rs W2∧Below W.heap.size W W2) ⟨HC2.out _,by have hbl:=HBL.out;exact kBl⟩ (fun W2 hW2=>?_);clear q1 q2 q3 q10 q11 b4 b5 b19 b20 z1 zg qk;obtain⟨h2,hbl2⟩:=hW2;have HBL2:=zak hbl2;have H2:=zak h2;have z1:=h2.lt;have q:Blk W2 g 95 (msV M A n c):=h2.k0;have zg:=q.lt;have qk:W2.cell? ⟨g,0,none⟩=some (.int .i64 M.kind):=q.cell 0 rfl;rw[←HKD.out] at qk;have q10:W2.cell? ⟨g,10,none⟩=some (.int .i64 M.sq):=q.cell 10 rfl;have q11:W2.cell? ⟨g,11,none⟩=some (.int .i64 M.bl):=q.cell 11 rfl;have b19:W2.cell? ⟨p,19,none⟩=some (.int .i64 S.ro):=h2.blk.cell 19 rfl
        clear q h2 hbl2;refine wp_region_held_drew (S:=(fun w'=>(∀qA:Addr,qA.block < (W2).heap.size→w'.cell? qA=(W2).cell? qA)∧ Below (W2).heap.size (W2) w')) (by kernel_rfl) ?hS73 (fun hHeld=>?rest73)
        case hS73=>exact kSn
        case' rest73=>skip
        iterate 3 (refine tkN ?_;try simp only[PqL,Act.put])
        refine kRd 3 (fun K hK=>?_)
        go_simp
        refine (zen 17 _ (H2.out.step kBl) rfl HW.out ⟨by omega,by omega⟩ (by omega)).mono ?_;rintro e W3 ⟨rfl,rfl⟩;rw[dw];refine hK.out _ _ ?hS79 (fun hHeld=>?rest79)
        case hS79=>exact kSn
        case' rest79=>(clear hK K;try simp only[PqL,Act.put])
        refine tkH 4 ?_;try simp only[PqL,Act.put]
        refine tkH 5 ?_;try simp only[PqL,Act.put]
        refine tkH 6 ?_;try simp only[PqL,Act.put]
        refine tkH 7 ?_;try simp only[PqL,Act.put]
        refine tkH 8 ?_;try simp only[PqL,Act.put]
        refine tkH 9 ?_;try simp only[PqL,Act.put]
        refine tkH 10 ?_;try simp only[PqL,Act.put]
        refine tkH 11 ?_;try simp only[PqL,Act.put]
        refine tkH 12 ?_;try simp only[PqL,Act.put]
        refine tkH 13 ?_;try simp only[PqL,Act.put]
        refine tkH 14 ?_;try simp only[PqL,Act.put]
        refine tkH 15 ?_;try simp only[PqL,Act.put]
        refine tkH 16 ?_;try simp only[PqL,Act.put]
        refine tkH 17 ?_;try simp only[PqL,Act.put]
        refine tkH 18 ?_;try simp only[PqL,Act.put]
        refine wpAnyH_done (by kernel_rfl) ?_ _;have hEnd:=hHeld.2
        repeat (clear hHeld)
        go_wp2_with fail
        have hbl:=HBL2.out;rw[HP.out];exact⟨by rw[HF.out];simp[HWV.out,hbl0]<;> omega,kBl⟩
      · have db:decide (0 < M.bl)=false:=decide_eq_false hbl0;go_upto_region 13 with fail
        refine zed (P:=fun W2=>CM w0 G p m S.wk (cliL S m R) (⟨g,95,(msV M A n c).toList⟩ :: ks) rs W2∧Below W.heap.size W W2) ⟨HC2.out _,by have hbl:=HBL.out;exact kBl⟩ (fun W2 hW2=>?_);clear q1 q2 q3 q10 q11 b4 b5 b19 b20 z1 zg qk;obtain⟨h2,hbl2⟩:=hW2;have HBL2:=zak hbl2;have H2:=zak h2;have z1:=h2.lt;have q:Blk W2 g 95 (msV M A n c):=h2.k0;have zg:=q.lt;have qk:W2.cell? ⟨g,0,none⟩=some (.int .i64 M.kind):=q.cell 0 rfl;rw[←HKD.out] at qk;have q10:W2.cell? ⟨g,10,none⟩=some (.int .i64 M.sq):=q.cell 10 rfl;have q11:W2.cell? ⟨g,11,none⟩=some (.int .i64 M.bl):=q.cell 11 rfl;have b19:W2.cell? ⟨p,19,none⟩=some (.int .i64 S.ro):=h2.blk.cell 19 rfl
        clear q h2 hbl2;refine wp_region_held_drew (S:=(fun w'=>(∀qA:Addr,qA.block < (W2).heap.size→w'.cell? qA=(W2).cell? qA)∧ Below (W2).heap.size (W2) w')) (by kernel_rfl) ?hS96 (fun hHeld=>?rest96)
        case hS96=>exact kSn
        case' rest96=>skip
        iterate 3 (refine tkN ?_;try simp only[PqL,Act.put])
        refine kRd 3 (fun K hK=>?_)
        go_simp
        refine (zen 17 _ (H2.out.step kBl) rfl HW.out ⟨by omega,by omega⟩ (by omega)).mono ?_;rintro e W3 ⟨rfl,rfl⟩;rw[dw];refine hK.out _ _ ?hS102 (fun hHeld=>?rest102)
        case hS102=>exact kSn
        case' rest102=>(clear hK K;try simp only[PqL,Act.put])
        refine tkH 4 ?_;try simp only[PqL,Act.put]
        refine tkH 5 ?_;try simp only[PqL,Act.put]
        refine tkH 6 ?_;try simp only[PqL,Act.put]
        refine tkH 7 ?_;try simp only[PqL,Act.put]
        refine tkH 8 ?_;try simp only[PqL,Act.put]
        refine tkH 9 ?_;try simp only[PqL,Act.put]
        refine tkU 10 ?_;try simp only[PqL,Act.put]
        refine tkU 11 ?_;try simp only[PqL,Act.put]
        refine tkU 12 ?_;try simp only[PqL,Act.put]
        refine tkU 13 ?_;try simp only[PqL,Act.put]
        refine tkU 14 ?_;try simp only[PqL,Act.put]
        refine tkU 15 ?_;try simp only[PqL,Act.put]
        refine tkU 16 ?_;try simp only[PqL,Act.put]
        refine tkH 17 ?_;try simp only[PqL,Act.put]
        refine tkH 18 ?_;try simp only[PqL,Act.put]
        refine wpAnyH_done (by kernel_rfl) ?_ _;have hEnd:=hHeld.2
        repeat (clear hHeld)
        go_wp2_with fail
        have hbl:=HBL2.out;rw[HP.out];exact⟨by rw[HF.out];simp[HWV.out,hbl0]<;> omega,kBl⟩
    · have dw:decide (S.wk=17)=false:=decide_eq_false hw;have HWV:=zak hw;clear hw;go_upto_region 13 with fail
      refine zed (P:=fun W2=>CM w0 G p m S.wk (cliL S m R) (⟨g,95,(msV M A n c).toList⟩ :: ks) rs W2∧Below W.heap.size W W2) ⟨HC2.out _,by have hbl:=HBL.out;exact kBl⟩ (fun W2 hW2=>?_);clear q1 q2 q3 q10 q11 b4 b5 b19 b20 z1 zg qk;obtain⟨h2,hbl2⟩:=hW2;have HBL2:=zak hbl2;have H2:=zak h2;have z1:=h2.lt;have q:Blk W2 g 95 (msV M A n c):=h2.k0;have zg:=q.lt;have qk:W2.cell? ⟨g,0,none⟩=some (.int .i64 M.kind):=q.cell 0 rfl;rw[←HKD.out] at qk;have q10:W2.cell? ⟨g,10,none⟩=some (.int .i64 M.sq):=q.cell 10 rfl;have q11:W2.cell? ⟨g,11,none⟩=some (.int .i64 M.bl):=q.cell 11 rfl;have b19:W2.cell? ⟨p,19,none⟩=some (.int .i64 S.ro):=h2.blk.cell 19 rfl
      clear q h2 hbl2;refine wp_region_held_drew (S:=(fun w'=>(∀qA:Addr,qA.block < (W2).heap.size→w'.cell? qA=(W2).cell? qA)∧ Below (W2).heap.size (W2) w')) (by kernel_rfl) ?hS119 (fun hHeld=>?rest119)
      case hS119=>exact kSn
      case' rest119=>skip
      iterate 3 (refine tkN ?_;try simp only[PqL,Act.put])
      refine kRd 3 (fun K hK=>?_)
      go_simp
      refine (zen 17 _ (H2.out.step kBl) rfl HW.out ⟨by omega,by omega⟩ (by omega)).mono ?_;rintro e W3 ⟨rfl,rfl⟩;rw[dw];refine hK.out _ _ ?hS125 (fun hHeld=>?rest125)
      case hS125=>exact kSn
      case' rest125=>(clear hK K;try simp only[PqL,Act.put])
      refine tkH 4 ?_;try simp only[PqL,Act.put]
      refine tkU 5 ?_;try simp only[PqL,Act.put]
      refine tkU 6 ?_;try simp only[PqL,Act.put]
      refine tkU 7 ?_;try simp only[PqL,Act.put]
      refine tkH 8 ?_;try simp only[PqL,Act.put]
      refine tkH 9 ?_;try simp only[PqL,Act.put]
      refine tkU 10 ?_;try simp only[PqL,Act.put]
      refine tkU 11 ?_;try simp only[PqL,Act.put]
      refine tkU 12 ?_;try simp only[PqL,Act.put]
      refine tkU 13 ?_;try simp only[PqL,Act.put]
      refine tkU 14 ?_;try simp only[PqL,Act.put]
      refine tkU 15 ?_;try simp only[PqL,Act.put]
      refine tkU 16 ?_;try simp only[PqL,Act.put]
      refine tkH 17 ?_;try simp only[PqL,Act.put]
      refine tkH 18 ?_;try simp only[PqL,Act.put]
      refine wpAnyH_done (by kernel_rfl) ?_ _;have hEnd:=hHeld.2
      repeat (clear hHeld)
      go_wp2_with fail
      have hbl:=HBL2.out;rw[HP.out];exact⟨by rw[HF.out];simp[HWV.out]<;> omega,kBl⟩
  · by_cases hw:S.wk=18
    · have dw:decide (S.wk=18)=true:=decide_eq_true hw;have HWV:=zak hw;clear hw;go_wp2_with fail
      refine (zen 18 _ (HC2.out _) rfl HW.out ⟨by omega,by omega⟩ (by omega)).mono ?_;rintro e W2 ⟨rfl,rfl⟩;rw[dw];go_wp2_with fail
      have hbl:=HBL.out;rw[HP.out];exact⟨by rw[HF.out];simp[HWV.out]<;> omega,kBl⟩
    · have dw:decide (S.wk=18)=false:=decide_eq_false hw;have HWV:=zak hw;clear hw;go_wp2_with fail
      refine (zen 18 _ (HC2.out _) rfl HW.out ⟨by omega,by omega⟩ (by omega)).mono ?_;rintro e W2 ⟨rfl,rfl⟩;rw[dw];go_wp2_with fail
      have hbl:=HBL.out;rw[HP.out];exact⟨by rw[HF.out];simp[HWV.out]<;> omega,kBl⟩
  · by_cases hw:S.wk=19
    · have dw:decide (S.wk=19)=true:=decide_eq_true hw;have HWV:=zak hw;clear hw;cases hb
      · skip
        go_wp2_with fail
        refine (zen 19 _ (HC2.out _) rfl HW.out ⟨by omega,by omega⟩ (by omega)).mono ?_;rintro e W2 ⟨rfl,rfl⟩;rw[dw];go_wp2_with fail
        have hbl:=HBL.out;rw[HP.out];exact⟨by rw[HF.out];simp[HWV.out]<;> omega,kBl⟩
      · skip
        go_wp2_with fail
        refine (zen 19 _ (HC2.out _) rfl HW.out ⟨by omega,by omega⟩ (by omega)).mono ?_;rintro e W2 ⟨rfl,rfl⟩;rw[dw];go_wp2_with fail
        have hbl:=HBL.out;rw[HP.out];exact⟨by rw[HF.out];simp[HWV.out]<;> omega,kBl⟩
    · have dw:decide (S.wk=19)=false:=decide_eq_false hw;have HWV:=zak hw;clear hw;go_wp2_with fail
      refine (zen 19 _ (HC2.out _) rfl HW.out ⟨by omega,by omega⟩ (by omega)).mono ?_;rintro e W2 ⟨rfl,rfl⟩;rw[dw];go_wp2_with fail
      have hbl:=HBL.out;rw[HP.out];exact⟨by rw[HF.out];simp[HWV.out]<;> omega,kBl⟩
  · by_cases hw:S.wk=20
    · have dw:decide (S.wk=20)=true:=decide_eq_true hw;have HWV:=zak hw;clear hw;go_wp2_with fail
      refine (zen 20 _ (HC2.out _) rfl HW.out ⟨by omega,by omega⟩ (by omega)).mono ?_;rintro e W2 ⟨rfl,rfl⟩;rw[dw];go_wp2_with fail
      have hbl:=HBL.out;rw[HP.out];exact⟨by rw[HF.out];simp[HWV.out]<;> omega,kBl⟩
    · have dw:decide (S.wk=20)=false:=decide_eq_false hw;have HWV:=zak hw;clear hw;go_wp2_with fail
      refine (zen 20 _ (HC2.out _) rfl HW.out ⟨by omega,by omega⟩ (by omega)).mono ?_;rintro e W2 ⟨rfl,rfl⟩;rw[dw];go_wp2_with fail
      have hbl:=HBL.out;rw[HP.out];exact⟨by rw[HF.out];simp[HWV.out]<;> omega,kBl⟩
  · by_cases hw:S.wk=21
    · have dw:decide (S.wk=21)=true:=decide_eq_true hw;have HWV:=zak hw;clear hw;go_wp2_with fail
      refine (zen 21 _ (HC2.out _) rfl HW.out ⟨by omega,by omega⟩ (by omega)).mono ?_;rintro e W2 ⟨rfl,rfl⟩;rw[dw];go_wp2_with fail
      have hbl:=HBL.out;rw[HP.out];exact⟨by rw[HF.out];simp[HWV.out]<;> omega,kBl⟩
    · have dw:decide (S.wk=21)=false:=decide_eq_false hw;have HWV:=zak hw;clear hw;go_wp2_with fail
      refine (zen 21 _ (HC2.out _) rfl HW.out ⟨by omega,by omega⟩ (by omega)).mono ?_;rintro e W2 ⟨rfl,rfl⟩;rw[dw];go_wp2_with fail
      have hbl:=HBL.out;rw[HP.out];exact⟨by rw[HF.out];simp[HWV.out]<;> omega,kBl⟩
end
end
end Go.Proofs.YtkkpjbjmhaecjaaGreat
