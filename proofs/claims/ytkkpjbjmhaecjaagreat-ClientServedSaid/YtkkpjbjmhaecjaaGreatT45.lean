/- None -/
import Derived.Test.YtkkpjbjmhaecjaaGreatT44
namespace Go.Proofs.YtkkpjbjmhaecjaaGreat
set_option linter.all false
set_option maxRecDepth 100000
set_option maxHeartbeats 8000000
section
open Go.RowKit Go.Maps
section
variable {w0:World} {G:Nat→Prop} {p m:Nat} {ks:List KB}
def TkW (w0:World) (G:Nat→Prop) (p m:Nat) (ks:List KB) (S:CliS) (n2:Nat) (W:World):Prop:=
 ∃R:CR,CM w0 G p m S.wk (cliL S m R) ks [⟨R.A,R.n,R.c,S.b⟩] W∧EOk S R∧R.n2=n2
theorem zxc (sq:Int):∀M ∈ [buaM sq],MsOk M:=by
 intro M hM;simp at hM;subst hM;exact⟨Nat.zero_le _,Nat.zero_le _,Nat.zero_le _⟩
theorem zxd (S:CliS)(R:CR)(M:Ms)(A:Option Addr)(n c:Nat)(W:World)(rs:List RB)(h:CM w0 G p m S.wk (cliL S m R) ks rs W)(hw:1≤S.wk∧S.wk≤21)(hE:EOk S R)(hb:⟨R.A,R.n,R.c,S.b⟩ ∈ rs)(hn2:R.n2=S.data.length)(hd:S.data= [])(hl:S.b.length≤100000)(hM:⟨A,n,c,M.data⟩ ∈ rs)(hMl:M.data.length≤7)(hro:0≤S.ro∧S.ro≤1000) :
 Calls Tryz.prog 193 #[.pointer (some ⟨p,0,none⟩),.agg (msV M A n c)] W (zw3 w0 G p m (cTkS S M) (cTkL S M)):=by
 have hnm:n=M.data.length:=(h.rows _ hM).1.hn;have hnr:R.n=S.b.length:=(h.rows _ hb).1.hn;have H1:Hid (CM w0 G p m S.wk (cliL S m R) (⟨W.heap.size,95,(msV M A n c).toList⟩ :: ks) (⟨R.A,R.n,R.c,S.b⟩ :: ⟨A,n,c,M.data⟩ :: []) (W.alloc (.cells (msV M A n c) 95))):=zak (((h.new _ _ (by decide)).subr (by
  intro r hr;simp at hr;rcases hr with rfl | rfl
  · exact hb
  · exact hM)))
 have HE:=zak hE;have HW:=zak hw;have HN2:=zak hn2;have HD:=zak hd;obtain⟨P,hP⟩:∃P,P=zw3 w0 G p m (cTkS S M) (cTkL S M):=⟨_,rfl⟩;have HP:=zak hP;rw[←hP];have hbd:R.n+n≤200000:=by omega
 have HNM:=zak hnm;have HNR:=zak hnr;clear h hE hw hn2 hd hb hM hP hnm hnr hl hMl;unfold msV at H1 ⊢;go_enter Tryz.func193,Tryz.ntmps193
 go_upto_region 1 with fail
 refine zed (P:=fun W1=>CM w0 G p m S.wk (cliL S m R) (⟨W.heap.size,95,(msV M A n c).toList⟩ :: ks) (⟨R.A,R.n,R.c,S.b⟩ :: ⟨A,n,c,M.data⟩ :: []) W1) (by exact H1.out) (fun W1 h1=>?_);obtain⟨g,hg⟩:∃g,g=W.heap.size:=⟨_,rfl⟩;rw[←hg] at h1 ⊢;clear H1 hg;have H1:=zak h1;have z1:=h1.lt;have q:Blk W1 g 95 (msV M A n c):=h1.k0;have zg:=q.lt;have q10:W1.cell? ⟨g,10,none⟩=some (.int .i64 M.sq):=q.cell 10 rfl;have c19:W1.cell? ⟨p,19,none⟩=some (.int .i64 S.ro):=h1.blk.cell 19 rfl;clear h1 q;obtain⟨hsb,hhsb⟩:∃b:Bool,b=(M.sq == S.ro+1):=⟨_,rfl⟩;have hsb2:=hhsb.symm;have HSB:=zak hhsb;clear hhsb
 go_quiet (fail)
 go_upto_if 13 with fail
 refine zed (P:=CM w0 G p m S.wk (cliL S m R) (⟨g,95,(msV M A n c).toList⟩ :: ks) (⟨R.A,R.n,R.c,S.b⟩ :: ⟨A,n,c,M.data⟩ :: [])) (H1.out.step (zdq (Below.refl _ _) _)) (fun W2 h2=>?_);clear H1 z1 zg q10 c19 hsb2;have H1:=zak h2;have z1:=h2.lt;have q:Blk W2 g 95 (msV M A n c):=h2.k0;have zg:=q.lt;have hgp:g≠p:=(h2.keep ⟨g,95,(msV M A n c).toList⟩ (by simp)).1;have q9:W2.cell? ⟨g,9,none⟩=some (.slice A n c):=q.cell 9 rfl;have c17:W2.cell? ⟨p,17,none⟩=some (.slice R.A R.n R.c):=h2.blk.cell 17 rfl;have HMS:=zak (h2.drew.rows ⟨A,n,c,M.data⟩ (by simp)).1.sl;have HQ:=zak q;clear h2 q;go_cut [14,15,16,17,18,19,20,21,22,23,24,25,26,27,28,29,30,31,32,33,34] (fun _ _ _ _ _ _ _ _ _ _ _ _ _ _ _ _ _ _ _ _ _ wx=>TkW w0 G p m (⟨g,95,(msV M A n c).toList⟩ :: ks) (cTkA S M) R.n2 wx)
 case first=>
  cases hsb
  · have HTA:Hid (cTkA S M=S):=zak (by unfold cTkA;rw[if_neg (by have:=HSB.out;simpa using this.symm)]);go_wp2_with fail
    go_meet
    exact (by rw[HTA.out];exact⟨R,H1.out.subr (by simp),HE.out,rfl⟩)
  · have HTA:Hid (cTkA S M= { S with b:=S.b ++ M.data,ro:=S.ro+1,wk:=if M.la=true then 20 else S.wk }):=zak (by unfold cTkA;rw[if_pos (by have:=HSB.out;simpa using this.symm)]);go_upto_region 2 with fail
    refine zaj (fun w'=>w'.cell? ⟨g,9,none⟩=some (.slice A n c)∧ w'.cell? ⟨p,17,none⟩=some (.slice R.A R.n R.c)) [0,1,2,3,4,5,6,7,8,9] (by kernel_rfl) ?hS1 (fun hHeld=>?rest1)
    case hS1=>((try dsimp only);exact⟨q9,c17⟩)
    case' rest1=>skip
    refine tkT 0 ?_;try simp only[PqL,Act.put]
    refine tkT 1 ?_;try simp only[PqL,Act.put]
    refine tkT 2 ?_;try simp only[PqL,Act.put]
    refine tkT 3 ?_;try simp only[PqL,Act.put]
    refine tkT 4 ?_;try simp only[PqL,Act.put]
    refine tkT 5 ?_;try simp only[PqL,Act.put]
    refine tkT 6 ?_;try simp only[PqL,Act.put]
    refine zag (i:=7) (o:=_) rfl (by kernel_rfl) (fun K hK=>?_);rw[if_pos (show Region.wanted _ _=true by kernel_rfl)];refine zw9 _ _ rfl R.A R.n R.c S.b rfl H1.out.drew.r0 A n c M.data rfl HNM.out HMS.out (by omega) (R.n+n) rfl ?_;intro A6 c6 w6 h3 h4 h5;have H6:=zak (H1.out.drew.app h3 h4 h5);have q6:Blk w6 g 95 (msV M A n c):=H6.out.k0;have Q6:=zak q6;have c17b:w6.cell? ⟨p,17,none⟩=some (.slice R.A R.n R.c):=H6.out.blk.cell 17 rfl;have f17:=H6.out.blk.frozen 17;have z6:=H6.out.lt;clear h3 h4 h5 q6;refine hK.out _ _ ?hS10 (fun hHeld=>?rest10)
    case hS10=>((try dsimp only);(exact⟨Q6.out.cell 9 rfl,c17b⟩))
    case' rest10=>(clear hK K;try simp only[PqL,Act.put])
    refine tkT 8 ?_;try simp only[PqL,Act.put]
    refine tkT 9 ?_;try simp only[PqL,Act.put]
    refine zah (i:=10) (o:=_) rfl (by kernel_rfl) (by kernel_rfl) (fun K hK=>?_)
    go_simp
    refine hK.out _ _ ?rest14
    case' rest14=>(clear hK K;try simp only[PqL,Act.put])
    refine zai (by kernel_rfl) ?_ _
    repeat (clear hHeld)
    have H7:Hid (CM w0 G p m S.wk (cliL S m { R with A:=A6,n:=R.n+n,c:=c6 }) (⟨g,95,(msV M A n c).toList⟩ :: ks) [⟨A6,R.n+n,c6,S.b ++ M.data⟩] (w6.setCell ⟨p,17,none⟩ (.slice A6 (R.n+n) c6))):=zak (H6.out.set 17 _);clear H6 Q6 c17b f17 z6 c17 q9 z1 zg H1 HMS HQ;go_upto_region 3 with fail
    refine zed (P:=CM w0 G p m S.wk (cliL S m { R with A:=A6,n:=R.n+n,c:=c6 }) (⟨g,95,(msV M A n c).toList⟩ :: ks) [⟨A6,R.n+n,c6,S.b ++ M.data⟩]) H7.out (fun W7 h7=>?_);clear H7;have H7:Hid (CM w0 G p m S.wk (cliL { S with b:=S.b ++ M.data,ro:=S.ro+1 } m { R with A:=A6,n:=R.n+n,c:=c6 }) (⟨g,95,(msV M A n c).toList⟩ :: ks) [⟨A6,R.n+n,c6,S.b ++ M.data⟩] (W7.setCell ⟨p,19,none⟩ (.int .i64 (S.ro+1)))):=zak (h7.set 19 _);have z7:=h7.lt;have c19:W7.cell? ⟨p,19,none⟩=some (.int .i64 S.ro):=h7.blk.cell 19 rfl;have f19:=h7.blk.frozen 19;clear h7;go_upto_region 4 with fail
    refine zed (P:=CM w0 G p m S.wk (cliL { S with b:=S.b ++ M.data,ro:=S.ro+1 } m { R with A:=A6,n:=R.n+n,c:=c6 }) (⟨g,95,(msV M A n c).toList⟩ :: ks) [⟨A6,R.n+n,c6,S.b ++ M.data⟩]) H7.out (fun W8 h8=>?_);clear H7 z7 c19 f19;have H8:=zak h8;have z8:=h8.lt;have q:Blk W8 g 95 (msV M A n c):=h8.k0;have zg:=q.lt;rcases Bool.eq_false_or_eq_true M.la with hla | hla
    · have q4:W8.cell? ⟨g,4,none⟩=some (.bool true):=by rw[←hla];exact q.cell 4 rfl
      have HLA:=zak hla;clear h8 q hla;go_wp2_with fail
      refine (zem 20 _ H8.out rfl ⟨by have:=HW.out.1;omega,HW.out.2⟩ ⟨by omega,by omega⟩).mono ?_;rintro e W9 ⟨rfl,h9⟩;have H9:=zak h9;clear h9;go_wp2_with fail
      go_meet
      exact (by rw[HTA.out,if_pos HLA.out];exact⟨{ R with A:=A6,n:=R.n+n,c:=c6 },H9.out,HE.out,rfl⟩)
    · have q4:W8.cell? ⟨g,4,none⟩=some (.bool false):=by rw[←hla];exact q.cell 4 rfl
      have HLA:=zak hla;clear h8 q hla;go_wp2_with fail
      go_meet
      exact (by rw[HTA.out,if_neg (by rw[HLA.out];decide)];exact⟨{ R with A:=A6,n:=R.n+n,c:=c6 },H8.out,HE.out,rfl⟩)
 case rest=>
  obtain⟨R2,hC,hE2,hnn⟩:=hcut;obtain⟨S2,hS2⟩:∃S2,S2=cTkA S M:=⟨_,rfl⟩;rw[←hS2] at hC hE2;have HS2:=zak hS2;have HE2:=zak hE2;have hw2:0≤S2.wk∧S2.wk≤21:=by
   have:=HW.out
   rw[hS2];unfold cTkA;split
   · dsimp only;split<;>omega
   · omega
  have hd2:S2.data= []:=by
   rw[hS2];unfold cTkA;split<;>exact HD.out
  have hr2:S2.ro≤1001∧0≤S2.ro:=by
   rw[hS2];unfold cTkA;split
   · dsimp only;omega
   · omega
  have HW2:=zak hw2;have HD2:=zak hd2;have HN22:Hid (R2.n2=S2.data.length):=zak (by rw[hnn,HN2.out,HD.out,hd2]);have HC:=zak hC;have z2:=hC.lt;have q2:Blk wc g 95 (msV M A n c):=hC.k0;have zg2:=q2.lt;have p4:wc.cell? ⟨g,4,none⟩=some (.bool M.la):=q2.cell 4 rfl;have p10:wc.cell? ⟨g,10,none⟩=some (.int .i64 M.sq):=q2.cell 10 rfl;clear hC hE2 hnn hS2 hw2 hd2 q9 c17 HMS HQ zg z1 H1 q2;by_cases hno:M.sq≠32∧M.la=false
  · obtain⟨hn1,hn3⟩:=hno;have HF:Hid (zw3 w0 G p m (cTkS S M) (cTkL S M) (.returned (.slice none 0 0)) wc):=zak (by
     have hh:=zwn HC.out HE2.out (fun _=>by simp) HN22.out (fun h=>absurd HD2.out h);unfold cTkS cTkL;rw[if_pos ⟨hn1,hn3⟩,if_pos ⟨hn1,hn3⟩,←HS2.out];exact hh)
    have d1:(M.sq != 32)=true:=by simp[hn1]
    rw[hn3] at p4;have HN3:=zak hn3;clear hn1 hn3;go_wp2_with fail
    rw[HP.out];exact HF.out
  · have HNO:=zak hno;clear hno;obtain⟨P2,hP2⟩:∃P2,P2=P:=⟨_,rfl⟩;have HP2:Hid (P=zw3 w0 G p m { S2 with ro:=0 } (cSend S2 [buaM S2.ro])):=zak (by
     rw[HP.out];unfold cTkS cTkL;rw[if_neg HNO.out,if_neg HNO.out,←HS2.out]
     congr 1
     rw[HS2.out];unfold cSend cTkA;split<;>rfl)
    clear hP2;have c19:wc.cell? ⟨p,19,none⟩=some (.int .i64 S2.ro):=HC.out.blk.cell 19 rfl;by_cases h32:M.sq=32
    · have d1:(M.sq != 32)=false:=by simp[h32]
      clear h32;go_upto_region 9 with fail
      refine zed (P:=CM w0 G p m S2.wk (cliL S2 m R2) (⟨wc.heap.size,95,(msV (buaM S2.ro) none 0 0).toList⟩ :: (⟨g,95,(msV M A n c).toList⟩ :: ks)) [⟨R2.A,R2.n,R2.c,S2.b⟩]) (by exact HC.out.new 95 (msV (buaM S2.ro) none 0 0).toList (by decide)) (fun W3 h3=>?_);obtain⟨g5,hg5⟩:∃g5,g5=wc.heap.size:=⟨_,rfl⟩;rw[←hg5] at h3 ⊢;clear hg5 c19 HC z2 zg2 p4 p10;have H4:Hid (CM w0 G p m S2.wk (cliL { S2 with ro:=0 } m R2) (⟨g5,95,(msV (buaM S2.ro) none 0 0).toList⟩ :: (⟨g,95,(msV M A n c).toList⟩ :: ks)) [⟨R2.A,R2.n,R2.c,S2.b⟩] (W3.setCell ⟨p,19,none⟩ (.int .i64 0))):=zak (h3.set 19 _);have z3:=h3.lt;have c19:W3.cell? ⟨p,19,none⟩=some (.int .i64 S2.ro):=h3.blk.cell 19 rfl
      have f19:=h3.blk.frozen 19;clear h3;go_upto_region 10 with fail
      refine zed (P:=CM w0 G p m S2.wk (cliL { S2 with ro:=0 } m R2) (⟨g5,95,(msV (buaM S2.ro) none 0 0).toList⟩ :: (⟨g,95,(msV M A n c).toList⟩ :: ks)) [⟨R2.A,R2.n,R2.c,S2.b⟩]) H4.out (fun W5 h5=>?_);clear H4 z3 c19 f19;have q5:Blk W5 g5 95 (msV (buaM S2.ro) none 0 0):=h5.k0;have HD5:=zak (h5.alloc (.cells (msV (buaM S2.ro) none 0 0) 95));have HB5:=zak (zdg W5 95 (msV (buaM S2.ro) none 0 0));have z5:=h5.lt;have zg5:=q5.lt;unfold msV buaM at q5 HD5 HB5;dsimp only at q5 HD5 HB5;obtain⟨eA,eB,eC,eD,eE,eF,eG,eH,eI,eJ,dU,dV,dW,dX⟩:=zde q5;have iE:=q5.frozen;clear h5;go_wp2_with fail
      refine (zhb p (1536+S2.nd) [buaM S2.ro] _ 1 1 _ (HD5.out.blk.cell 1 rfl) rfl (zg4 (M:=buaM S2.ro) HB5.out rfl (Sl.nil _ _)) (zxc _) (by omega)).mono ?_;rintro e w6 ⟨As,ns,cs,ds,rfl,hO,hb⟩;have HF:=zak (zwm (S:={ S2 with ro:=0 }) (R:=R2) (L:=[buaM S2.ro]) HD5.out HE2.out (fun _=>by simp) HN22.out (fun h=>absurd HD2.out h) ⟨As,ns,cs,ds,rfl,hO,hb⟩);clear hO hb;go_wp2_with fail
      rw[HP2.out];exact HF.out
    · have d1:(M.sq != 32)=true:=by simp[h32]
      have hla:M.la=true:=by
       cases hq:M.la
       · exact absurd ⟨h32,hq⟩ HNO.out
       · rfl
      rw[hla] at p4;have HLA:=zak hla;clear h32 hla;go_upto_region 9 with fail
      refine zed (P:=CM w0 G p m S2.wk (cliL S2 m R2) (⟨wc.heap.size,95,(msV (buaM S2.ro) none 0 0).toList⟩ :: (⟨g,95,(msV M A n c).toList⟩ :: ks)) [⟨R2.A,R2.n,R2.c,S2.b⟩]) (by exact HC.out.new 95 (msV (buaM S2.ro) none 0 0).toList (by decide)) (fun W3 h3=>?_);obtain⟨g5,hg5⟩:∃g5,g5=wc.heap.size:=⟨_,rfl⟩;rw[←hg5] at h3 ⊢;clear hg5 c19 HC z2 zg2 p4 p10;have H4:Hid (CM w0 G p m S2.wk (cliL { S2 with ro:=0 } m R2) (⟨g5,95,(msV (buaM S2.ro) none 0 0).toList⟩ :: (⟨g,95,(msV M A n c).toList⟩ :: ks)) [⟨R2.A,R2.n,R2.c,S2.b⟩] (W3.setCell ⟨p,19,none⟩ (.int .i64 0))):=zak (h3.set 19 _);have z3:=h3.lt;have c19:W3.cell? ⟨p,19,none⟩=some (.int .i64 S2.ro):=h3.blk.cell 19 rfl
      have f19:=h3.blk.frozen 19;clear h3;go_upto_region 10 with fail
      refine zed (P:=CM w0 G p m S2.wk (cliL { S2 with ro:=0 } m R2) (⟨g5,95,(msV (buaM S2.ro) none 0 0).toList⟩ :: (⟨g,95,(msV M A n c).toList⟩ :: ks)) [⟨R2.A,R2.n,R2.c,S2.b⟩]) H4.out (fun W5 h5=>?_);clear H4 z3 c19 f19;have q5:Blk W5 g5 95 (msV (buaM S2.ro) none 0 0):=h5.k0;have HD5:=zak (h5.alloc (.cells (msV (buaM S2.ro) none 0 0) 95));have HB5:=zak (zdg W5 95 (msV (buaM S2.ro) none 0 0));have z5:=h5.lt;have zg5:=q5.lt;unfold msV buaM at q5 HD5 HB5;dsimp only at q5 HD5 HB5;obtain⟨eA,eB,eC,eD,eE,eF,eG,eH,eI,eJ,dU,dV,dW,dX⟩:=zde q5;have iE:=q5.frozen;clear h5;go_wp2_with fail
      refine (zhb p (1536+S2.nd) [buaM S2.ro] _ 1 1 _ (HD5.out.blk.cell 1 rfl) rfl (zg4 (M:=buaM S2.ro) HB5.out rfl (Sl.nil _ _)) (zxc _) (by omega)).mono ?_;rintro e w6 ⟨As,ns,cs,ds,rfl,hO,hb⟩;have HF:=zak (zwm (S:={ S2 with ro:=0 }) (R:=R2) (L:=[buaM S2.ro]) HD5.out HE2.out (fun _=>by simp) HN22.out (fun h=>absurd HD2.out h) ⟨As,ns,cs,ds,rfl,hO,hb⟩);clear hO hb;go_wp2_with fail
      rw[HP2.out];exact HF.out
end
end
section
open Go.RowKit Go.Maps
section
variable {w0:World} {G:Nat→Prop} {p m:Nat} {ks:List KB}
theorem zxe:∀M ∈ [bueM],MsOk M:=by
 intro M hM;simp at hM;subst hM;exact⟨Nat.zero_le _,Nat.zero_le _,Nat.zero_le _⟩
theorem zxf (S:CliS)(R:CR)(M:Ms)(A:Option Addr)(n c:Nat)(W:World)(rs:List RB)(h:CM w0 G p m S.wk (cliL S m R) ks rs W)(hw:0≤S.wk∧S.wk≤21)(hE:EOk S R)(hb:⟨R.A,R.n,R.c,S.b⟩ ∈ rs)(hn2:R.n2=S.data.length)(hd:S.data= [])(hl:S.b.length≤100000)(hem:0≤M.em∧M.em≤7)(hsum:M.sum≤65535) :
 Calls Tryz.prog 194 #[.pointer (some ⟨p,0,none⟩),.agg (msV M A n c)] W (zw3 w0 G p m (cLsS S M) (cLsL S M)):=by
 have hnr:R.n=S.b.length:=(h.rows _ hb).1.hn;have hnc:R.n≤R.c:=(h.rows _ hb).1.le;have H1:Hid (CM w0 G p m S.wk (cliL S m R) (⟨W.heap.size,95,(msV M A n c).toList⟩ :: ks) (⟨R.A,R.n,R.c,S.b⟩ :: []) (W.alloc (.cells (msV M A n c) 95))):=zak (((h.new _ _ (by decide)).subr (by
  intro r hr;simp at hr;subst hr;exact hb)))
 have HE:=zak hE;have HW:=zak hw;have HN2:=zak hn2;have HD:=zak hd;obtain⟨em,hemm⟩:∃em:Nat,M.em=(em:Int):=⟨M.em.toNat,by omega⟩;obtain⟨k,hk⟩:∃k:Nat,k=S.b.length - em:=⟨_,rfl⟩;have HB:Hid (cLsB S M=S.b.take k):=zak (by unfold cLsB;rw[hemm,hk];rfl);obtain⟨P,hP⟩:∃P,P=zw3 w0 G p m (cLsS S M) (cLsL S M):=⟨_,rfl⟩;have HP:=zak hP;rw[←hP];have hem7:em≤7:=by omega
 have hb1:R.n≤100000:=by omega
 obtain⟨nr,hnrr⟩:∃nr,nr=R.n:=⟨_,rfl⟩;have HNR:Hid (nr=S.b.length):=zak (by rw[hnrr,hnr]);have HNRR:=zak hnrr;rw[←hnrr] at hb1 hnc;have hkn:k≤nr:=by rw[hk,hnrr,hnr];omega
 have hkc:k≤R.c:=by omega
 have hmax:(if (nr:Int) - (em:Int) < 0 then 0 else (nr:Int) - (em:Int))=(k:Int):=by rw[hk,hnrr,hnr];split<;>omega
 have hcut:=fun W=>zjw R.A nr R.c k (k:Int) .i64 rfl hkc W
 have HEM:=zak hemm;have HK:=zak hk;have HSU:=zak hsum;clear h hE hw hn2 hd hb hP hnr hl hem hemm hk hnrr hsum;unfold msV at H1 ⊢;go_enter Tryz.func194,Tryz.ntmps194
 go_upto_region 1 with fail
 refine zed (P:=fun W1=>CM w0 G p m S.wk (cliL S m R) (⟨W.heap.size,95,(msV M A n c).toList⟩ :: ks) (⟨R.A,R.n,R.c,S.b⟩ :: []) W1) (by exact H1.out) (fun W1 h1=>?_);obtain⟨g,hg⟩:∃g,g=W.heap.size:=⟨_,rfl⟩;rw[←hg] at h1 ⊢;clear H1 hg;have H1:=zak h1;have z1:=h1.lt;have q:Blk W1 g 95 (msV M A n c):=h1.k0;have zg:=q.lt;have q12:W1.cell? ⟨g,12,none⟩=some (.int .i64 (em:Int)):=by rw[←HEM.out];exact q.cell 12 rfl
 have c17:W1.cell? ⟨p,17,none⟩=some (.slice R.A nr R.c):=by rw[HNRR.out];exact h1.blk.cell 17 rfl
 clear h1 q
 go_quiet (fail)
 go_upto_region 3 with fail
 refine zed (P:=CM w0 G p m S.wk (cliL S m R) (⟨g,95,(msV M A n c).toList⟩ :: ks) (⟨R.A,R.n,R.c,S.b⟩ :: [])) (H1.out.step (zdq (Below.refl _ _) _)) (fun W2 h2=>?_);clear H1 z1 zg q12 c17 hcut hmax;have H2:=zak h2;have z2:=h2.lt;have q:Blk W2 g 95 (msV M A n c):=h2.k0;have zg:=q.lt;have q13:W2.cell? ⟨g,13,none⟩=some (.int .u16 (M.sum:Nat)):=q.cell 13 rfl;have HPc:Hid (∀code:Nat,cLsC S M=code→code≠0→P=zw3 w0 G p m (cEnd S code []) (cFailL S code)):=zak (fun code h1 h0=>by
  rw[HP.out];unfold cLsS cLsL;rw[h1,if_pos h0,if_pos h0])
 have HP0:Hid (cLsC S M=0→P=zw3 w0 G p m (cEnd S 0 (S.b.take k)) (cSend S [bueM])):=zak (fun h1=>by
  rw[HP.out];unfold cLsS cLsL;rw[h1,if_neg (by simp),if_neg (by simp),HB.out])
 obtain⟨ec,hec⟩:∃ec,ec=S.ec:=⟨_,rfl⟩;have c26:W2.cell? ⟨p,26,none⟩=some (.bool ec):=by rw[hec,←HE.out.1];exact h2.blk.cell 26 rfl
 have HEC:=zak hec;clear h2 q hec;cases ec
 · have hok: ¬(S.ec=true∧sum16L (cLsB S M)≠ M.sum):=by rw[←HEC.out];simp
   have HOK:=zak hok;clear hok;by_cases hneg:(nr:Int) - (em:Int) < 0
   · have HC:Hid (cLsC S M=101122064):=zak (by unfold cLsC;rw[if_neg HOK.out,if_pos (.inl (by rw[HEM.out,←HNR.out];omega))]);have dneg:decide ((nr:Int) - (em:Int) < 0)=true:=decide_eq_true hneg;go_wp2_with fail
     refine (zwq S R 101122064 _ H2.out HW.out HE.out (by omega)).mono ?_;rintro e W10 hR;obtain⟨As,ns,cs,rfl⟩:=hR.shape;have HR:=zak hR;clear hR;go_wp2_with fail
     rw[HPc.out 101122064 HC.out (by decide)];exact HR.out
   · have dneg:decide ((nr:Int) - (em:Int) < 0)=false:=decide_eq_false hneg;have HNG:=zak hneg;go_wp2_with fail
     refine (zwt S R ((nr:Int) - (em:Int)) _ H2.out HE.out).mono ?_;rintro e W9 ⟨rfl,hw9⟩;subst hw9;have HSE:Hid (cSzB S ((nr:Int) - (em:Int))=cSzB S ((S.b.length:Int) - M.em)):=zak (by rw[HEM.out,←HNR.out]);cases hs:cSzB S ((nr:Int) - (em:Int))
     · have HC:Hid (cLsC S M=101122064):=zak (by unfold cLsC;rw[if_neg HOK.out,if_pos (.inr (by rw[←HSE.out];exact hs))]);clear hs;go_wp2_with fail
       refine (zwq S R 101122064 _ H2.out HW.out HE.out (by omega)).mono ?_;rintro e W10 hR;obtain⟨As,ns,cs,rfl⟩:=hR.shape;have HR:=zak hR;clear hR;go_wp2_with fail
       rw[HPc.out 101122064 HC.out (by decide)];exact HR.out
     · have HC:Hid (cLsC S M=0):=zak (by unfold cLsC;rw[if_neg HOK.out,if_neg (by rintro (h | h);rw[HEM.out,←HNR.out] at h;have h5:=HNG.out;omega;rw[←HSE.out,hs] at h;cases h)]);clear hs;have HKL:Hid (k=(S.b.take k).length):=zak (by rw[List.length_take,←HNR.out];omega);go_wp2_with fail
       refine (zer 0 R.A k R.c (S.b.take k) _ H2.out rfl rfl HW.out HKL.out (by omega) (fun W' hc=>by rw[List.map_take];exact hc.r0.sl.take _)).mono ?_;rintro e W10 ⟨rfl,A9,c9,h9⟩;have H9:Hid (CM w0 G p m 0 (cliL (cEnd S 0 (S.b.take k)) m { R with A2:=A9,n2:=k,c2:=c9 }) (⟨g,95,(msV M A n c).toList⟩ :: ks) (⟨A9,k,c9,S.b.take k⟩ :: ⟨R.A,R.n,R.c,S.b⟩ :: []) W10):=zak h9;have z9:=h9.lt;have HD9:=zak (H9.out.alloc (.cells (msV bueM none 0 0) 95));have HB9:=zak (zdg W10 95 (msV bueM none 0 0));unfold msV bueM at HD9 HB9;clear h9 H9;go_wp2_with fail
       refine (zhb p (1536+S.nd) [bueM] _ 1 1 _ (HD9.out.blk.cell 1 rfl) rfl (zg4 (M:=bueM) HB9.out rfl (Sl.nil _ _)) zxe (by omega)).mono ?_;rintro e w6 ⟨As,ns,cs,ds,rfl,hO,hb⟩;have HF:=zak (zwm (S:=cEnd S 0 (S.b.take k)) (R:={ R with A2:=A9,n2:=k,c2:=c9 }) (L:=[bueM]) HD9.out HE.out (fun h=>absurd rfl h) HKL.out (fun _=>by simp[cEnd]) ⟨As,ns,cs,ds,rfl,hO,hb⟩);clear hO hb;go_wp2_with fail
       rw[HP0.out HC.out];exact HF.out
 · go_wp2_with fail
   refine (zmp R.A k R.c M.sum (S.b.take k) _ (by rw[List.length_take,←HNR.out];omega) (by omega) (by rw[List.map_take];exact H2.out.r0.sl.take _)).mono ?_;rintro e W3 ⟨rfl,hb3⟩;have H3:=zak (H2.out.step hb3);have z3:=H3.out.lt;clear hb3;by_cases hsm:sum16L (S.b.take k)=M.sum
   · rw[decide_eq_true hsm];have hok: ¬(S.ec=true∧sum16L (cLsB S M)≠ M.sum):=by rw[HB.out];exact fun h=>h.2 hsm
     have HOK:=zak hok;clear hok hsm;by_cases hneg:(nr:Int) - (em:Int) < 0
     · have HC:Hid (cLsC S M=101122064):=zak (by unfold cLsC;rw[if_neg HOK.out,if_pos (.inl (by rw[HEM.out,←HNR.out];omega))]);have dneg:decide ((nr:Int) - (em:Int) < 0)=true:=decide_eq_true hneg;go_wp2_with fail
       refine (zwq S R 101122064 _ H3.out HW.out HE.out (by omega)).mono ?_;rintro e W10 hR;obtain⟨As,ns,cs,rfl⟩:=hR.shape;have HR:=zak hR;clear hR;go_wp2_with fail
       rw[HPc.out 101122064 HC.out (by decide)];exact HR.out
     · have dneg:decide ((nr:Int) - (em:Int) < 0)=false:=decide_eq_false hneg;have HNG:=zak hneg;go_wp2_with fail
       refine (zwt S R ((nr:Int) - (em:Int)) _ H3.out HE.out).mono ?_;rintro e W9 ⟨rfl,hw9⟩;subst hw9;have HSE:Hid (cSzB S ((nr:Int) - (em:Int))=cSzB S ((S.b.length:Int) - M.em)):=zak (by rw[HEM.out,←HNR.out]);cases hs:cSzB S ((nr:Int) - (em:Int))
       · have HC:Hid (cLsC S M=101122064):=zak (by unfold cLsC;rw[if_neg HOK.out,if_pos (.inr (by rw[←HSE.out];exact hs))]);clear hs;go_wp2_with fail
         refine (zwq S R 101122064 _ H3.out HW.out HE.out (by omega)).mono ?_;rintro e W10 hR;obtain⟨As,ns,cs,rfl⟩:=hR.shape;have HR:=zak hR;clear hR;go_wp2_with fail
         rw[HPc.out 101122064 HC.out (by decide)];exact HR.out
       · have HC:Hid (cLsC S M=0):=zak (by unfold cLsC;rw[if_neg HOK.out,if_neg (by rintro (h | h);rw[HEM.out,←HNR.out] at h;have h5:=HNG.out;omega;rw[←HSE.out,hs] at h;cases h)]);clear hs;have HKL:Hid (k=(S.b.take k).length):=zak (by rw[List.length_take,←HNR.out];omega);go_wp2_with fail
         refine (zer 0 R.A k R.c (S.b.take k) _ H3.out rfl rfl HW.out HKL.out (by omega) (fun W' hc=>by rw[List.map_take];exact hc.r0.sl.take _)).mono ?_;rintro e W10 ⟨rfl,A9,c9,h9⟩;have H9:Hid (CM w0 G p m 0 (cliL (cEnd S 0 (S.b.take k)) m { R with A2:=A9,n2:=k,c2:=c9 }) (⟨g,95,(msV M A n c).toList⟩ :: ks) (⟨A9,k,c9,S.b.take k⟩ :: ⟨R.A,R.n,R.c,S.b⟩ :: []) W10):=zak h9;have z9:=h9.lt;have HD9:=zak (H9.out.alloc (.cells (msV bueM none 0 0) 95));have HB9:=zak (zdg W10 95 (msV bueM none 0 0));unfold msV bueM at HD9 HB9;clear h9 H9;go_wp2_with fail
         refine (zhb p (1536+S.nd) [bueM] _ 1 1 _ (HD9.out.blk.cell 1 rfl) rfl (zg4 (M:=bueM) HB9.out rfl (Sl.nil _ _)) zxe (by omega)).mono ?_;rintro e w6 ⟨As,ns,cs,ds,rfl,hO,hb⟩;have HF:=zak (zwm (S:=cEnd S 0 (S.b.take k)) (R:={ R with A2:=A9,n2:=k,c2:=c9 }) (L:=[bueM]) HD9.out HE.out (fun h=>absurd rfl h) HKL.out (fun _=>by simp[cEnd]) ⟨As,ns,cs,ds,rfl,hO,hb⟩);clear hO hb;go_wp2_with fail
         rw[HP0.out HC.out];exact HF.out
   · rw[decide_eq_false hsm];have HC:Hid (cLsC S M=84148228):=zak (by unfold cLsC;rw[if_pos ⟨HEC.out.symm,by rw[HB.out];exact hsm⟩]);clear hsm;go_wp2_with fail
     refine (zwq S R 84148228 _ H3.out HW.out HE.out (by omega)).mono ?_;rintro e W10 hR;obtain⟨As,ns,cs,rfl⟩:=hR.shape;have HR:=zak hR;clear hR;go_wp2_with fail
     rw[HPc.out 84148228 HC.out (by decide)];exact HR.out
end
end
end Go.Proofs.YtkkpjbjmhaecjaaGreat
