/- None -/
import Derived.Test.YtkkpjbjmhaecjaaGreatT42
namespace Go.Proofs.YtkkpjbjmhaecjaaGreat
set_option linter.all false
set_option maxRecDepth 100000
set_option maxHeartbeats 8000000
section
open Go.RowKit Go.Maps
section
variable {w0:World} {G:Nat→Prop} {p m:Nat} {ks:List KB} {rs:List RB}
theorem zww (tg la:Bool)(d:List UInt8):∀M ∈ [dsegM tg la d],MsOk M:=by
 intro M hM;simp at hM;subst hM;exact⟨Nat.zero_le _,Nat.zero_le _,Nat.zero_le _⟩
theorem seg_b (b:List UInt8)(a t_:Nat)(A:Option Addr)(c:Nat){W:World}(h:Sl W A (b.map bv))(hc:b.length≤c):Sl W (cutA A c a 1) (((b.drop a).take (t_ - a)).map bv):=by
 have:=(h.cutA (k:=a) (c:=c) (s:=1) (by simpa using hc) (by omega)).take (t_ - a)
 simpa [List.map_take,List.map_drop] using this
theorem zwx (S:CliS)(R:CR)(W:World)(h:CM w0 G p m S.wk (cliL S m R) ks rs W)(hw:0≤S.wk∧S.wk≤21)(hE:EOk S R)(hb:⟨R.A,R.n,R.c,S.b⟩ ∈ rs)(hlt:(S.b.length:Int) < S.at_) :
 Calls Tryz.prog 189 #[.pointer (some ⟨p,0,none⟩)] W (zw3 w0 G p m (cSegS S) (cSegL S)):=by
 have HC:=zak h;have HE:=zak hE;have HW:=zak hw;have hn:=(h.rows _ hb).1.hn;have hlt':(R.n:Int) < S.at_:=by rw[show R.n=S.b.length from hn];exact hlt
 obtain⟨P,hP⟩:∃P,P=zw3 w0 G p m (cSegS S) (cSegL S):=⟨_,rfl⟩;have HP:Hid (P=zw3 w0 G p m (cEnd S 0 []) []):=zak (by rw[hP];unfold cSegS cSegL;rw[if_pos hlt,if_pos hlt]);rw[←hP];have z:=h.lt;have b17:W.cell? ⟨p,17,none⟩=some (.slice R.A R.n R.c):=h.blk.cell 17 rfl;have b18:W.cell? ⟨p,18,none⟩=some (.int .i64 S.at_):=h.blk.cell 18 rfl;clear h hE hw hP hb hlt hn;go_enter Tryz.func189,Tryz.ntmps189
 go_upto_region 1 with fail
 go_quiet (fail)
 go_wp2_with fail
 refine (zer 0 none 0 0 [] _ (HC.out.step (zdq (Below.refl _ _) _)) rfl rfl HW.out rfl (by omega) (fun _ _=>Sl.nil _ _)).mono ?_;rintro e W1 ⟨rfl,A',c',h1⟩;have HF:=zak (zwn (S:=cEnd S 0 []) (R:={ R with A2:=A',n2:=0,c2:=c' }) h1 HE.out (fun h=>absurd rfl h) rfl (fun h=>absurd rfl h));clear h1;go_wp2_with fail
 rw[HP.out];exact HF.out
theorem zwy (S:CliS)(R:CR)(W:World)(h:CM w0 G p m S.wk (cliL S m R) ks rs W)(hw:0≤S.wk∧S.wk≤21)(hE:EOk S R)(hb:⟨R.A,R.n,R.c,S.b⟩ ∈ rs)(hn2:R.n2=S.data.length)(hd:S.data= [])(hl:S.b.length≤100000)(a:Nat)(ha:S.at_=(a:Int))(hal:a≤S.b.length) :
 Calls Tryz.prog 189 #[.pointer (some ⟨p,0,none⟩)] W (zw3 w0 G p m (cSegS S) (cSegL S)):=by
 have HC:=zak h;have HE:=zak hE;have HW:=zak hw;have HB:=zak hb;have HN2:=zak hn2;have HD:=zak hd;have hO:=(h.rows _ hb).1;have hn:R.n=S.b.length:=hO.hn;have hc:R.n≤R.c:=hO.le;have HO:=zak hO;obtain⟨n,hnn⟩:∃n,n=R.n:=⟨_,rfl⟩;have HNN:=zak hnn;have HN:Hid (n=S.b.length):=zak (by rw[hnn,hn]);obtain⟨t_,hto⟩:∃t_:Nat,t_=min n (a+7):=⟨_,rfl⟩;have HTO:=zak hto;have hmin:(if (a:Int)+7 < (n:Int) then (a:Int)+7 else (n:Int))=(t_:Int):=by rw[hto];split<;>omega
 have han:a≤t_:=by omega
 have htn:t_≤n:=by omega
 have hn1:n≤100000:=by omega
 have hcc:n≤R.c:=by omega
 have HA:=zak ha;obtain⟨la,hla⟩:∃la:Bool,la=decide ((t_:Int)=(n:Int)):=⟨_,rfl⟩;have hcut:=fun W=>zdz R.A n R.c a t_ (a:Int) (t_:Int) .i64 .i64 rfl rfl han (by omega) W
 have z:=h.lt;have b17:W.cell? ⟨p,17,none⟩=some (.slice R.A n R.c):=by rw[hnn];exact h.blk.cell 17 rfl
 have b18:W.cell? ⟨p,18,none⟩=some (.int .i64 (a:Int)):=by rw[←ha];exact h.blk.cell 18 rfl
 have b20:W.cell? ⟨p,20,none⟩=some (.bool S.tg):=h.blk.cell 20 rfl;have hna: ¬(n:Int) < (a:Int):=by omega
 have hcto:cTo S=(t_:Int):=by unfold cTo;rw[ha,hto,hnn,hn];omega
 have hcla:cLa S=la:=by unfold cLa;rw[hcto,hla,hnn,hn]
 have hnl: ¬(S.b.length:Int) < S.at_:=by omega
 obtain⟨P,hP⟩:∃P,P=zw3 w0 G p m (cSegS S) (cSegL S):=⟨_,rfl⟩;have HP:Hid (P=zw3 w0 G p m { S with at_:=if la=true then (t_:Int)+1 else (t_:Int),wk:=13 } (cSend S [dsegM S.tg la ((S.b.drop a).take (t_ - a))])):=zak (by
  rw[hP];unfold cSegS cSegL cSegD;rw[if_neg hnl,if_neg hnl,hcla,hcto,ha,Int.toNat_natCast,show ((t_:Int) - (a:Int)).toNat=t_ - a by omega])
 rw[←hP];have hlaB:((t_:Int) == (n:Int))=la:=by rw[hla];rfl
 clear h hE hw hP hb hn2 hd hO hn hc hnn hto hla hcto hcla ha hal hl hnl;go_enter Tryz.func189,Tryz.ntmps189
 go_upto_region 1 with fail
 go_quiet (fail)
 go_upto_region 3 with fail
 go_quiet (fail)
 go_upto_region 4 with fail
 refine zed (P:=CM w0 G p m S.wk (cliL S m R) ks rs) (HC.out.step (zdq (zdq (Below.refl _ _) _) _)) (fun W2 h2=>?_);clear b17 b18 b20 z HC;have z:=h2.lt;have b17:W2.cell? ⟨p,17,none⟩=some (.slice R.A n R.c):=by rw[HNN.out];exact h2.blk.cell 17 rfl
 have b18:W2.cell? ⟨p,18,none⟩=some (.int .i64 (a:Int)):=by rw[←HA.out];exact h2.blk.cell 18 rfl
 have b20:W2.cell? ⟨p,20,none⟩=some (.bool S.tg):=h2.blk.cell 20 rfl;obtain⟨dd,hdd⟩:∃dd,dd=(S.b.drop a).take (t_ - a):=⟨_,rfl⟩;have HDD:=zak hdd;have hdl:t_ - a=dd.length:=by rw[hdd,List.length_take,List.length_drop,←HN.out];omega
 have HDL:=zak hdl;obtain⟨A5,hA5⟩:∃A5,A5=cutA R.A R.c a 1:=⟨_,rfl⟩;have HA5:=zak hA5;rw[←hA5] at hcut;have H3:=zak ((h2.new 95 (msV (dsegM S.tg la dd) A5 (t_ - a) (R.c - a)).toList (by decide)).drew);clear h2 hdd hdl hA5;refine wp_region_held_drew (S:=(fun w'=>(∀qA:Addr,qA.block < (W2).heap.size→w'.cell? qA=(W2).cell? qA)∧ Below (W2).heap.size (W2) w')) (by kernel_rfl) ?hS1 (fun hHeld=>?rest1)
 case hS1=>exact kSn
 case' rest1=>skip
 iterate 22 (refine tkN ?_;try simp only[PqL,Act.put])
 refine kRd 22 (fun K hK=>?_)
 go_simp
 refine hK.out _ _ ?hS26 (fun hHeld=>?rest26)
 case hS26=>exact kSn
 case' rest26=>(clear hK K;try simp only[PqL,Act.put])
 refine kRd 23 (fun K hK=>?_)
 go_simp
 refine hK.out _ _ ?hS29 (fun hHeld=>?rest29)
 case hS29=>exact kSn
 case' rest29=>(clear hK K;try simp only[PqL,Act.put])
 refine wpAnyH_done (by kernel_rfl) ?_ _;have hEnd:=hHeld.2
 repeat (clear hHeld)
 have H4:Hid (CM w0 G p m S.wk (cliL S m R) (⟨W2.heap.size,95,(msV (dsegM S.tg la dd) A5 (t_ - a) (R.c - a)).toList⟩ :: ks) rs (W2.alloc (.cells (msV (dsegM S.tg la dd) A5 (t_ - a) (R.c - a)) 95)).drew):=H3;have HSG:Hid (∀W,Sl W R.A (S.b.map bv)→ Sl W A5 (dd.map bv)):=zak (fun W h=>by rw[HA5.out,HDD.out];exact seg_b S.b a t_ R.A R.c (W:=W) h (by rw[←HN.out];exact hcc));clear H3;go_upto_region 5 with fail
 refine zed (P:=fun W=>CM w0 G p m S.wk (cliL S m R) (⟨W2.heap.size,95,(msV (dsegM S.tg la dd) A5 (t_ - a) (R.c - a)).toList⟩ :: ks) rs W) (by exact H4.out) (fun W3 h3=>?_);clear H4 b17 b18 b20 z hcut hEnd;have z:=h3.lt;obtain⟨g,hg⟩:∃g,g=W2.heap.size:=⟨_,rfl⟩;rw[←hg] at h3 ⊢;clear hg;have b18:=h3.blk.cell 18 rfl;have f18:=h3.blk.frozen 18;have q:Blk W3 g 95 (msV (dsegM S.tg la dd) A5 (t_ - a) (R.c - a)):=h3.k0;have H3:=zak h3;have zg:g < W3.heap.size:=q.lt;have hgp:g≠p:=(h3.keep ⟨g,95,(msV (dsegM S.tg la dd) A5 (t_ - a) (R.c - a)).toList⟩ (by simp)).1;clear h3;have HMt:la=true→Hid (CM w0 G p m S.wk (cliL { S with at_:=(t_:Int)+1 } m R) (⟨g,95,(msV (dsegM S.tg la dd) A5 (t_ - a) (R.c - a)).toList⟩ :: ks) rs ((W3.setCell ⟨p,18,none⟩ (.int .i64 (t_:Int))).setCell ⟨p,18,none⟩ (.int .i64 ((t_:Int)+1)))):=fun _=>zak ((H3.out.set 18 _).set 18 _)
 have HMf:la=false→Hid (CM w0 G p m S.wk (cliL { S with at_:=(t_:Int) } m R) (⟨g,95,(msV (dsegM S.tg la dd) A5 (t_ - a) (R.c - a)).toList⟩ :: ks) rs (W3.setCell ⟨p,18,none⟩ (.int .i64 (t_:Int)))):=fun _=>zak (H3.out.set 18 _)
 have hq:∀x:Bool,la=x→W3.cell? ⟨g,4,none⟩=some (.bool x):=fun x e=>e ▸ q.cell 4 rfl
 obtain⟨at2,hat⟩:∃at2:Int,at2=if la=true then (t_:Int)+1 else (t_:Int):=⟨_,rfl⟩
 rw[←hat] at HP;have HAT:=zak hat;clear hat H3 q;rcases Bool.eq_false_or_eq_true la with hl | hl
 · have q4:=hq _ hl;have HM:=HMt hl;have e2:at2=(t_:Int)+1:=by rw[HAT.out,if_pos hl]
   have E2:=zak e2;clear e2 hq;go_upto_region 8 with fail
   refine zed (P:=CM w0 G p m S.wk (cliL { S with at_:=at2 } m R) (⟨g,95,(msV (dsegM S.tg la dd) A5 (t_ - a) (R.c - a)).toList⟩ :: ks) rs) (by have e:=E2.out;rw[e];exact HM.out) (fun W4 h4=>?_);have H4:=zak h4;clear h4 HM E2;clear q4 b18 f18 z zg HMt HMf hl;go_wp2_with fail
   refine (zem 13 W4 H4.out rfl HW.out ⟨by omega,by omega⟩).mono ?_;rintro e W5 ⟨rfl,h5⟩;clear H4;have H5:Hid (CM w0 G p m (13:Int) (cliL { S with at_:=at2,wk:=13 } m R) (⟨g,95,(msV (dsegM S.tg la dd) A5 (t_ - a) (R.c - a)).toList⟩ :: ks) rs W5):=zak h5;have q5:Blk W5 g 95 (msV (dsegM S.tg la dd) A5 (t_ - a) (R.c - a)):=h5.k0;have HD5:=zak (h5.alloc (.cells (msV (dsegM S.tg la dd) A5 (t_ - a) (R.c - a)) 95));have HB5:=zak (zdg W5 95 (msV (dsegM S.tg la dd) A5 (t_ - a) (R.c - a)));have HS5:=zak (HSG.out _ (HD5.out.rows _ HB.out).1.sl);have zg5:=q5.lt;unfold msV dsegM at q5 HD5 HB5 HS5;dsimp only at q5 HD5 HB5 HS5
   obtain⟨eA,eB,eC,eD,eE,eF,eG,eH,eI,eJ,dU,dV,dW,dX⟩:=zde q5;have iE:=q5.frozen;clear h5;go_wp2_with fail
   refine (zhb p (1536+S.nd) [dsegM S.tg la dd] _ 1 1 _ (HD5.out.blk.cell 1 rfl) rfl (zg4 (M:=dsegM S.tg la dd) HB5.out HDL.out HS5.out) (zww _ _ _) (by omega)).mono ?_;rintro e w2 ⟨As,ns,cs,ds,rfl,hO,hb⟩;have HF:=zak (zwm (S:={ S with at_:=at2,wk:=13 }) (R:=R) (L:=[dsegM S.tg la dd]) HD5.out HE.out (fun _=>HB.out) HN2.out (fun h=>absurd HD.out h) ⟨As,ns,cs,ds,rfl,hO,hb⟩);clear hO hb;go_wp2_with fail
   rw[HP.out,←HDD.out];exact HF.out
 · have q4:=hq _ hl;have HM:=HMf hl;have e2:at2=(t_:Int):=by rw[HAT.out,if_neg (by rw[hl];decide)]
   have E2:=zak e2;clear e2 hq;go_upto_region 8 with fail
   refine zed (P:=CM w0 G p m S.wk (cliL { S with at_:=at2 } m R) (⟨g,95,(msV (dsegM S.tg la dd) A5 (t_ - a) (R.c - a)).toList⟩ :: ks) rs) (by have e:=E2.out;rw[e];exact HM.out) (fun W4 h4=>?_);have H4:=zak h4;clear h4 HM E2;clear q4 b18 f18 z zg HMt HMf hl;go_wp2_with fail
   refine (zem 13 W4 H4.out rfl HW.out ⟨by omega,by omega⟩).mono ?_;rintro e W5 ⟨rfl,h5⟩;clear H4;have H5:Hid (CM w0 G p m (13:Int) (cliL { S with at_:=at2,wk:=13 } m R) (⟨g,95,(msV (dsegM S.tg la dd) A5 (t_ - a) (R.c - a)).toList⟩ :: ks) rs W5):=zak h5;have q5:Blk W5 g 95 (msV (dsegM S.tg la dd) A5 (t_ - a) (R.c - a)):=h5.k0;have HD5:=zak (h5.alloc (.cells (msV (dsegM S.tg la dd) A5 (t_ - a) (R.c - a)) 95));have HB5:=zak (zdg W5 95 (msV (dsegM S.tg la dd) A5 (t_ - a) (R.c - a)));have HS5:=zak (HSG.out _ (HD5.out.rows _ HB.out).1.sl);have zg5:=q5.lt;unfold msV dsegM at q5 HD5 HB5 HS5;dsimp only at q5 HD5 HB5 HS5
   obtain⟨eA,eB,eC,eD,eE,eF,eG,eH,eI,eJ,dU,dV,dW,dX⟩:=zde q5;have iE:=q5.frozen;clear h5;go_wp2_with fail
   refine (zhb p (1536+S.nd) [dsegM S.tg la dd] _ 1 1 _ (HD5.out.blk.cell 1 rfl) rfl (zg4 (M:=dsegM S.tg la dd) HB5.out HDL.out HS5.out) (zww _ _ _) (by omega)).mono ?_;rintro e w2 ⟨As,ns,cs,ds,rfl,hO,hb⟩;have HF:=zak (zwm (S:={ S with at_:=at2,wk:=13 }) (R:=R) (L:=[dsegM S.tg la dd]) HD5.out HE.out (fun _=>HB.out) HN2.out (fun h=>absurd HD.out h) ⟨As,ns,cs,ds,rfl,hO,hb⟩);clear hO hb;go_wp2_with fail
   rw[HP.out,←HDD.out];exact HF.out
end
end
section
open Go.RowKit Go.Maps
section
variable {w0:World} {G:Nat→Prop} {p m:Nat} {ks:List KB} {rs:List RB}
theorem zwz (S:CliS)(R:CR)(W:World)(h:CM w0 G p m S.wk (cliL S m R) ks rs W)(hw:0≤S.wk∧S.wk≤21)(hE:EOk S R)(hb:⟨R.A,R.n,R.c,S.b⟩ ∈ rs)(hn2:R.n2=S.data.length)(hd:S.data= [])(hl:S.b.length≤100000)(ha:0≤S.at_) :
 Calls Tryz.prog 189 #[.pointer (some ⟨p,0,none⟩)] W (zw3 w0 G p m (cSegS S) (cSegL S)):=by
 by_cases h1:(S.b.length:Int) < S.at_
 · exact zwx S R W h hw hE hb h1
 · exact zwy S R W h hw hE hb hn2 hd hl S.at_.toNat (by omega) (by omega)
theorem zw0 (S:CliS)(R:CR)(M:Ms)(A:Option Addr)(n c:Nat)(W:World)(h:CM w0 G p m S.wk (cliL S m R) ks rs W)(hw:0≤S.wk∧S.wk≤21)(hE:EOk S R)(hb:⟨R.A,R.n,R.c,S.b⟩ ∈ rs)(hn2:R.n2=S.data.length)(hd:S.data= [])(hl:S.b.length≤100000)(ha:0≤S.at_)(hk:M.kind=12) :
 Calls Tryz.prog 143 #[.pointer (some ⟨p,0,none⟩),.agg (msV M A n c)] W (zw3 w0 G p m (cStepS S M) (cStepL S M)):=by
 have H1:Hid (CM w0 G p m S.wk (cliL S m R) ks rs (W.alloc (.cells (msV M A n c) 95))):=zak (h.alloc _);have q:=zdg W 95 (msV M A n c);have HS:=zak (fun W h=>zwz (w0:=w0) (G:=G) (p:=p) (m:=m) (ks:=ks) (rs:=rs) S R W h hw hE hb hn2 hd hl ha);obtain⟨P,hP⟩:∃P,P=zw3 w0 G p m (cStepS S M) (cStepL S M):=⟨_,rfl⟩;have HP:Hid (P=zw3 w0 G p m (cSegS S) (cSegL S)):=zak (by rw[hP];unfold cStepS cStepL;rw[if_pos hk,if_pos hk]);rw[←hP];have qk:(W.alloc (.cells (msV M A n c) 95)).cell? ⟨W.heap.size,0,none⟩=some (.int .i64 12):=by rw[←hk];exact q.cell 0 rfl
 clear h hw hE hb hn2 hd hl ha hk hP q;unfold msV at H1 qk ⊢;go_enter Tryz.func143,Tryz.ntmps143
 go_wp2_with fail
 refine (HS.out _ H1.out).mono ?_;rw[←HP.out];rintro e W2 hR;obtain⟨N,As,ns,cs,ds,rfl,hO⟩:∃N As ns cs ds,e= .returned (.slice As ns cs)∧ (zg3 W2 (fun g=>N≤g) As ns cs (cSegL S) ds):=by
  rw[HP.out] at hR;obtain⟨N,As,ns,cs,ds,h1,h2,_⟩:=hR;exact⟨N,As,ns,cs,ds,h1,h2⟩
 have HR:=zak hR;clear hR hO;go_wp2_with fail
 exact HR.out
theorem zw1 (S:CliS)(f:Frm)(A:Option Addr)(n c:Nat)(w:World)(hS:CV_ w G p m S)(hw:0≤S.wk∧S.wk≤21)(hn:n=f.data.length)(hno:S.wk=0∨f.id≠1408+S.nd∨f.re=true∨f.data.length≠8) :
 Calls Tryz.prog 78 #[.pointer (some ⟨p,0,none⟩),.agg #[.int .i64 f.id,.bool f.re,.slice A n c]] w (zw3 w G p m S []):=by
 obtain⟨R,hC,hE,hR2⟩:=hS.cm;have H1:Hid (CM w G p m S.wk (cliL S m R) [⟨w.heap.size,69,[.int .i64 f.id,.bool f.re,.slice A n c]⟩] [] (w.alloc (.cells #[.int .i64 f.id,.bool f.re,.slice A n c] 69))):=zak (hC.new _ _ (by decide));have HBL:=zak (zc5 (Below.refl w.heap.size w) (.cells #[.int .i64 f.id,.bool f.re,.slice A n c] 69));have HS:=zak hS;have HNO:=zak hno;have HN:=zak hn;obtain⟨P,hP⟩:∃P,P=zw3 w G p m S []:=⟨_,rfl⟩;have HP:Hid (∀W',Below w.heap.size w W'→P (.returned (.slice none 0 0)) W'):=zak (fun W' hb=>by
  rw[hP];refine⟨w.heap.size,none,0,0,[],rfl,zg3.nil _ _,Nat.le_refl _,HS.out.keep (fun q _ hq=>hb.block q hq) (fun q h1 h2=>⟨.inl h2,h1⟩),zd0.of_below hb⟩)
 rw[←hP];clear hS hC hE hR2 hno hn hP HS hw;obtain⟨id,re,data⟩:=f;dsimp only at *
 go_enter Tryz.func78,Tryz.ntmps78
 go_upto_region 1 with fail
 refine zed (P:=fun W1=>CM w G p m S.wk (cliL S m R) [⟨w.heap.size,69,[.int .i64 id,.bool re,.slice A n c]⟩] [] W1∧Below w.heap.size w W1) ⟨H1.out,HBL.out⟩ (fun W1 h1=>?_);clear H1 HBL;obtain⟨h1,hbl⟩:=h1;obtain⟨g,hg⟩:∃g,g=w.heap.size:=⟨_,rfl⟩;rw[←hg] at h1 ⊢;clear hg;have HBL:=zak hbl;have H1:=zak h1;have z1:=h1.lt;have q:Blk W1 g 69 #[.int .i64 id,.bool re,.slice A n c]:=h1.k0;have zg:=q.lt;have q0:W1.cell? ⟨g,0,none⟩=some (.int .i64 id):=q.cell 0 rfl;have q1:W1.cell? ⟨g,1,none⟩=some (.bool re):=q.cell 1 rfl;have q2:W1.cell? ⟨g,2,none⟩=some (.slice A n c):=q.cell 2 rfl;have b0:W1.cell? ⟨p,0,none⟩=some (.int .i64 (1408+S.nd)):=h1.blk.cell 0 rfl
 clear q h1 hbl;by_cases hwk:S.wk=0
 · have HWK:Hid (decide (S.wk≠0)=false):=zak (by simp[hwk]);clear hwk;refine wp_region_held_drew (S:=(fun w'=>(∀qA:Addr,qA.block < (W1).heap.size→w'.cell? qA=(W1).cell? qA)∧ Below (W1).heap.size (W1) w')) (by kernel_rfl) ?hS1 (fun hHeld=>?rest1)
   case hS1=>exact kSn
   case' rest1=>skip
   refine tkH 0 ?_;try simp only[PqL,Act.put]
   refine kRd 1 (fun K hK=>?_)
   go_simp
   refine (zeo _ (H1.out.step kBl) rfl).mono ?_;rintro e W2 ⟨rfl,rfl⟩;rw[show decide (S.wk≠0)=false from HWK.out];refine hK.out _ _ ?hS5 (fun hHeld=>?rest5)
   case hS5=>exact kSn
   case' rest5=>(clear hK K;try simp only[PqL,Act.put])
   refine tkH 2 ?_;try simp only[PqL,Act.put]
   refine tkH 3 ?_;try simp only[PqL,Act.put]
   refine tkU 4 ?_;try simp only[PqL,Act.put]
   refine tkU 5 ?_;try simp only[PqL,Act.put]
   refine tkU 6 ?_;try simp only[PqL,Act.put]
   refine tkU 7 ?_;try simp only[PqL,Act.put]
   refine tkU 8 ?_;try simp only[PqL,Act.put]
   refine tkU 9 ?_;try simp only[PqL,Act.put]
   refine tkU 10 ?_;try simp only[PqL,Act.put]
   refine tkH 11 ?_;try simp only[PqL,Act.put]
   refine tkH 12 ?_;try simp only[PqL,Act.put]
   refine tkU 13 ?_;try simp only[PqL,Act.put]
   refine tkU 14 ?_;try simp only[PqL,Act.put]
   refine tkH 15 ?_;try simp only[PqL,Act.put]
   refine tkH 16 ?_;try simp only[PqL,Act.put]
   refine tkU 17 ?_;try simp only[PqL,Act.put]
   refine tkU 18 ?_;try simp only[PqL,Act.put]
   refine tkU 19 ?_;try simp only[PqL,Act.put]
   refine tkU 20 ?_;try simp only[PqL,Act.put]
   refine tkH 21 ?_;try simp only[PqL,Act.put]
   refine wpAnyH_done (by kernel_rfl) ?_ _;have hEnd:=hHeld.2
   repeat (clear hHeld)
   go_wp2_with fail
   have hbl:=HBL.out;exact HP.out _ kBl
 have HWK:Hid (decide (S.wk≠0)=true):=zak (by simp[hwk]);have HW0:=zak hwk;clear hwk;by_cases hid: ¬id=1408+S.nd
 · have d1:(id != 1408+S.nd)=true:=by simp[hid]
   clear hid;refine wp_region_held_drew (S:=(fun w'=>(∀qA:Addr,qA.block < (W1).heap.size→w'.cell? qA=(W1).cell? qA)∧ Below (W1).heap.size (W1) w')) (by kernel_rfl) ?hS27 (fun hHeld=>?rest27)
   case hS27=>exact kSn
   case' rest27=>skip
   refine tkH 0 ?_;try simp only[PqL,Act.put]
   refine kRd 1 (fun K hK=>?_)
   go_simp
   refine (zeo _ (H1.out.step kBl) rfl).mono ?_;rintro e W2 ⟨rfl,rfl⟩;rw[show decide (S.wk≠0)=true from HWK.out];refine hK.out _ _ ?hS31 (fun hHeld=>?rest31)
   case hS31=>exact kSn
   case' rest31=>(clear hK K;try simp only[PqL,Act.put])
   refine tkH 2 ?_;try simp only[PqL,Act.put]
   refine tkH 3 ?_;try simp only[PqL,Act.put]
   refine tkH 4 ?_;try simp only[PqL,Act.put]
   refine tkH 5 ?_;try simp only[PqL,Act.put]
   refine tkH 6 ?_;try simp only[PqL,Act.put]
   refine tkH 7 ?_;try simp only[PqL,Act.put]
   refine tkH 8 ?_;try simp only[PqL,Act.put]
   refine tkH 9 ?_;try simp only[PqL,Act.put]
   refine tkH 10 ?_;try simp only[PqL,Act.put]
   refine tkH 11 ?_;try simp only[PqL,Act.put]
   refine tkH 12 ?_;try simp only[PqL,Act.put]
   refine tkU 13 ?_;try simp only[PqL,Act.put]
   refine tkU 14 ?_;try simp only[PqL,Act.put]
   refine tkH 15 ?_;try simp only[PqL,Act.put]
   refine tkH 16 ?_;try simp only[PqL,Act.put]
   refine tkU 17 ?_;try simp only[PqL,Act.put]
   refine tkU 18 ?_;try simp only[PqL,Act.put]
   refine tkU 19 ?_;try simp only[PqL,Act.put]
   refine tkU 20 ?_;try simp only[PqL,Act.put]
   refine tkH 21 ?_;try simp only[PqL,Act.put]
   refine wpAnyH_done (by kernel_rfl) ?_ _;have hEnd:=hHeld.2
   repeat (clear hHeld)
   go_wp2_with fail
   have hbl:=HBL.out;exact HP.out _ kBl
 replace hid:id=1408+S.nd:=Classical.not_not.1 hid;have d1:(id != 1408+S.nd)=false:=by simp[hid]
 have HID:=zak hid;clear hid;by_cases hre:re=true
 · subst hre;refine wp_region_held_drew (S:=(fun w'=>(∀qA:Addr,qA.block < (W1).heap.size→w'.cell? qA=(W1).cell? qA)∧ Below (W1).heap.size (W1) w')) (by kernel_rfl) ?hS53 (fun hHeld=>?rest53)
   case hS53=>exact kSn
   case' rest53=>skip
   refine tkH 0 ?_;try simp only[PqL,Act.put]
   refine kRd 1 (fun K hK=>?_)
   go_simp
   refine (zeo _ (H1.out.step kBl) rfl).mono ?_;rintro e W2 ⟨rfl,rfl⟩;rw[show decide (S.wk≠0)=true from HWK.out];refine hK.out _ _ ?hS57 (fun hHeld=>?rest57)
   case hS57=>exact kSn
   case' rest57=>(clear hK K;try simp only[PqL,Act.put])
   refine tkH 2 ?_;try simp only[PqL,Act.put]
   refine tkH 3 ?_;try simp only[PqL,Act.put]
   refine tkH 4 ?_;try simp only[PqL,Act.put]
   refine tkH 5 ?_;try simp only[PqL,Act.put]
   refine tkH 6 ?_;try simp only[PqL,Act.put]
   refine tkH 7 ?_;try simp only[PqL,Act.put]
   refine tkH 8 ?_;try simp only[PqL,Act.put]
   refine tkH 9 ?_;try simp only[PqL,Act.put]
   refine tkH 10 ?_;try simp only[PqL,Act.put]
   refine tkH 11 ?_;try simp only[PqL,Act.put]
   refine tkH 12 ?_;try simp only[PqL,Act.put]
   refine tkH 13 ?_;try simp only[PqL,Act.put]
   refine tkH 14 ?_;try simp only[PqL,Act.put]
   refine tkH 15 ?_;try simp only[PqL,Act.put]
   refine tkH 16 ?_;try simp only[PqL,Act.put]
   refine tkU 17 ?_;try simp only[PqL,Act.put]
   refine tkU 18 ?_;try simp only[PqL,Act.put]
   refine tkU 19 ?_;try simp only[PqL,Act.put]
   refine tkU 20 ?_;try simp only[PqL,Act.put]
   refine tkH 21 ?_;try simp only[PqL,Act.put]
   refine wpAnyH_done (by kernel_rfl) ?_ _;have hEnd:=hHeld.2
   repeat (clear hHeld)
   go_wp2_with fail
   have hbl:=HBL.out;exact HP.out _ kBl
 obtain rfl:re=false:=by simpa using hre
 have d3:((n:Int) != 8)=true:=by
  rcases HNO.out with h | h | h | h
  · exact absurd h HW0.out
  · exact absurd HID.out h
  · cases h
  · have:=HN.out;simp;omega
 refine wp_region_held_drew (S:=(fun w'=>(∀qA:Addr,qA.block < (W1).heap.size→w'.cell? qA=(W1).cell? qA)∧ Below (W1).heap.size (W1) w')) (by kernel_rfl) ?hS79 (fun hHeld=>?rest79)
 case hS79=>exact kSn
 case' rest79=>skip
 refine tkH 0 ?_;try simp only[PqL,Act.put]
 refine kRd 1 (fun K hK=>?_)
 go_simp
 refine (zeo _ (H1.out.step kBl) rfl).mono ?_;rintro e W2 ⟨rfl,rfl⟩;rw[show decide (S.wk≠0)=true from HWK.out];refine hK.out _ _ ?hS83 (fun hHeld=>?rest83)
 case hS83=>exact kSn
 case' rest83=>(clear hK K;try simp only[PqL,Act.put])
 refine tkH 2 ?_;try simp only[PqL,Act.put]
 refine tkH 3 ?_;try simp only[PqL,Act.put]
 refine tkH 4 ?_;try simp only[PqL,Act.put]
 refine tkH 5 ?_;try simp only[PqL,Act.put]
 refine tkH 6 ?_;try simp only[PqL,Act.put]
 refine tkH 7 ?_;try simp only[PqL,Act.put]
 refine tkH 8 ?_;try simp only[PqL,Act.put]
 refine tkH 9 ?_;try simp only[PqL,Act.put]
 refine tkH 10 ?_;try simp only[PqL,Act.put]
 refine tkH 11 ?_;try simp only[PqL,Act.put]
 refine tkH 12 ?_;try simp only[PqL,Act.put]
 refine tkH 13 ?_;try simp only[PqL,Act.put]
 refine tkH 14 ?_;try simp only[PqL,Act.put]
 refine tkH 15 ?_;try simp only[PqL,Act.put]
 refine tkH 16 ?_;try simp only[PqL,Act.put]
 refine tkH 17 ?_;try simp only[PqL,Act.put]
 refine tkH 18 ?_;try simp only[PqL,Act.put]
 refine tkH 19 ?_;try simp only[PqL,Act.put]
 refine tkH 20 ?_;try simp only[PqL,Act.put]
 refine tkH 21 ?_;try simp only[PqL,Act.put]
 refine wpAnyH_done (by kernel_rfl) ?_ _;have hEnd:=hHeld.2
 repeat (clear hHeld)
 go_wp2_with fail
 have hbl:=HBL.out;exact HP.out _ kBl
end
end
end Go.Proofs.YtkkpjbjmhaecjaaGreat
