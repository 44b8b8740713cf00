/- None -/
import Derived.Test.YtkkpjbjmhaecjaaGreatT47
namespace Go.Proofs.YtkkpjbjmhaecjaaGreat
set_option linter.all false
set_option maxRecDepth 100000
set_option maxHeartbeats 8000000
section
open Go.RowKit Go.Maps
section
variable {G:Nat→Prop} {p m:Nat}
theorem zx4 (ix sub:Int)(sz:Bool)(size:Nat)(d:List UInt8)(h:size≤4294967295):∀M ∈ [downM ix sub sz size d],MsOk M:=by
 intro M hM;simp at hM;subst hM;exact⟨h,Nat.zero_le _,Nat.zero_le _⟩
theorem zx5 (S:CliS)(ix sub:Int)(b:List UInt8)(A:Option Addr)(n c:Nat)(w:World)(hS:CV_ w G p m S)(hw:0≤S.wk∧S.wk≤21)(hn:n=b.length)(hq:1≤b.length∧b.length≤4)(hb:cBegB ix sub 0=true)(hs:∀W',zd0 (fun q=>q=p∨q=m∨G q) w W'→Sl W' A (b.map bv)) :
 Calls Tryz.prog 30 #[.pointer (some ⟨p,0,none⟩),.int .i64 ix,.int .i64 sub,.slice A n c,.int .i64 0] w (zw3 w G p m (cWriteS S ix sub b 0) (cWriteL S ix sub b 0)):=by
 obtain⟨R,hC,hE,hR2⟩:=hS.cm;have HC:=zak hC;have HE:=zak hE;have HW:=zak hw;have HN:=zak hn;have HS:=zak hs;have HBG:=zak hb;have hn0:0 < n:=by omega
 have hn1:n≤4:=by omega
 have d1:decide ((0:Int) < (n:Int))=true:=decide_eq_true (by omega);have d2:decide ((n:Int)≤ 4)=true:=decide_eq_true (by omega);obtain⟨P,hP⟩:∃P,P=zw3 w G p m (cWriteS S ix sub b 0) (cWriteL S ix sub b 0):=⟨_,rfl⟩;have HP:Hid (P=zw3 w G p m { cBegS S ix sub with b:=b,wk:=12,at_:=(n:Int)+1 } (cSend S [downM ix sub true 0 b])):=zak (by
  rw[hP];unfold cWriteS cWriteL;rw[if_neg (by rw[hb];decide),if_neg (by decide),if_pos ⟨rfl,by omega,hq.2⟩,if_neg (by rw[hb];decide),if_neg (by decide),if_pos ⟨rfl,by omega,hq.2⟩,hn])
 rw[←hP];clear hS hC hE hR2 hw hn hq hb hs hP;go_enter Tryz.func30,Tryz.ntmps30
 go_wp2_with fail
 refine (zet S R ix sub 0 w HC.out HW.out HBG.out).mono ?_;rintro e W1 ⟨rfl,A',c',h1⟩;have H1:=zak h1;have z1:=h1.lt;have HS1:=zak (HS.out W1 h1.only);clear h1 HC;go_wp2_with (at_builtin;refine zdw _ rfl _ _ rfl W1.heap.size none 0 0 [] rfl (zdv.nil _ _) A n c b rfl HN.out HS1.out (by omega) (Nat.le_refl _) n (by omega) ?_;intro A4 c4 w4 h3 h4 h5 h6;have H2:=zak ((H1.out.step h6).row (h3.mono H1.out.size));have c17:=H2.out.blk.cell 17 rfl;have f17:=H2.out.blk.frozen 17;have z2:=H2.out.lt)
 have H3:Hid (CM w G p m 0 (cliL { cBegS S ix sub with b:=b } m { R with A:=A4,n:=n,c:=c4,A2:=A',n2:=0,c2:=c' }) [] [⟨A4,n,c4,b⟩] (w4.setCell ⟨p,17,none⟩ (.slice A4 n c4))):=zak (H2.out.set 17 _);clear H2 c17 f17 h3 h4 h5 h6 H1 HS1;refine (zx1 { cBegS S ix sub with b:=b } { R with A:=A4,n:=n,c:=c4,A2:=A',n2:=0,c2:=c' } 2 _ H3.out).mono ?_;rintro e w5 ⟨rfl,hb5⟩;have H6:Hid (CM w G p m 0 (cliL { cBegS S ix sub with b:=b } m { R with A:=A4,n:=n,c:=c4,A2:=A',n2:=0,c2:=c' }) [⟨w5.heap.size,95,(msV (placeM 2 ix sub) none 0 0).toList⟩] [⟨A4,n,c4,b⟩] (w5.alloc (.cells (msV (placeM 2 ix sub) none 0 0) 95))):=zak ((H3.out.step hb5).new _ _ (by decide))
 have hw5:w.heap.size≤w5.heap.size:=(H3.out.step hb5).only.size;clear hb5 H3;unfold msV placeM at H6;unfold msV placeM cBegS;dsimp only at H6 ⊢;go_wp2_with fail
 refine (zem 12 _ H6.out rfl ⟨by omega,by omega⟩ ⟨by omega,by omega⟩).mono ?_;rintro e W7 ⟨rfl,h7⟩;obtain⟨g,hg⟩:∃g,g=w5.heap.size:=⟨_,rfl⟩;rw[←hg] at h7 hw5 ⊢;have H7:Hid (CM w G p m 12 (cliL { cBegS S ix sub with b:=b,wk:=12 } m { R with A:=A4,n:=n,c:=c4,A2:=A',n2:=0,c2:=c' }) [⟨g,95,(msV (placeM 2 ix sub) none 0 0).toList⟩] [⟨A4,n,c4,b⟩] W7):=zak h7;have z7:=h7.lt;have c18:=H7.out.blk.cell 18 rfl;have f18:=H7.out.blk.frozen 18;clear h7 H6 hg;go_upto_region 17 with fail
 refine zed (P:=CM w G p m 12 (cliL { cBegS S ix sub with b:=b,wk:=12,at_:=(n:Int)+1 } m { R with A:=A4,n:=n,c:=c4,A2:=A',n2:=0,c2:=c' }) [⟨g,95,(msV (placeM 2 ix sub) none 0 0).toList⟩] [⟨A4,n,c4,b⟩]) (by exact H7.out.set 18 _) (fun W8 h8=>?_);clear H7 z7 c18 f18;have H8:=zak h8;have z8:=h8.lt;have q8:Blk W8 g 95 (msV (placeM 2 ix sub) none 0 0):=h8.k0;have hgp:g≠p:=(h8.keep ⟨g,95,(msV (placeM 2 ix sub) none 0 0).toList⟩ (by simp)).1;have zg:=q8.lt;have c17:W8.cell? ⟨p,17,none⟩=some (.slice A4 n c4):=h8.blk.cell 17 rfl;have q6:W8.cell? ⟨g,6,none⟩=some (.bool false):=q8.cell 6 rfl;have q9:W8.cell? ⟨g,9,none⟩=some (.slice none 0 0):=q8.cell 9 rfl
 have fq:=q8.frozen;have hgw: ¬g < w.heap.size:=by omega
 have H9a:=zak ((h8.put (x:=⟨g,95,(msV (placeM 2 ix sub) none 0 0).toList⟩) hgw (by simp) 6 (.bool true)).drew);have H9:=zak (((h8.put (x:=⟨g,95,(msV (placeM 2 ix sub) none 0 0).toList⟩) hgw (by simp) 6 (.bool true)).put (x:=⟨g,95,(msV (placeM 2 ix sub) none 0 0).toList.set 6 (.bool true)⟩) hgw (by simp) 9 (.slice A4 n c4)).drew);clear h8 q8;refine wp_region_held_drew (S:=(fun w'=>w'.cell? ⟨p,17,none⟩=some (.slice A4 n c4)∧ True)) (by kernel_rfl) ?hS1 (fun hHeld=>?rest1)
 case hS1=>((try dsimp only);(exact⟨c17,trivial⟩))
 case' rest1=>skip
 iterate 5 (refine tkN ?_;try simp only[PqL,Act.put])
 refine kRd 5 (fun K hK=>?_)
 go_simp
 refine hK.out _ _ ?hS9 (fun hHeld=>?rest9)
 case hS9=>((try dsimp only);(exact⟨H9a.out.blk.cell 17 rfl,trivial⟩))
 case' rest9=>(clear hK K;try simp only[PqL,Act.put])
 refine tkH 6 ?_;try simp only[PqL,Act.put]
 refine kRd 7 (fun K hK=>?_)
 go_simp
 refine hK.out _ _ ?hS13 (fun hHeld=>?rest13)
 case hS13=>((try dsimp only);(exact⟨H9.out.blk.cell 17 rfl,trivial⟩))
 case' rest13=>(clear hK K;try simp only[PqL,Act.put])
 refine wpAnyH_done (by kernel_rfl) ?_ _;have hEnd:=hHeld.2
 repeat (clear hHeld)
 clear hEnd H9a;go_upto_region 18 with fail
 refine zed (P:=CM w G p m 12 (cliL { cBegS S ix sub with b:=b,wk:=12,at_:=(n:Int)+1 } m { R with A:=A4,n:=n,c:=c4,A2:=A',n2:=0,c2:=c' }) [⟨g,95,(msV (downM ix sub true 0 b) A4 n c4).toList⟩] [⟨A4,n,c4,b⟩]) (by exact H9.out) (fun WA hA=>?_);clear H9 H8 z8 zg c17 q6 q9 fq;have qa:Blk WA g 95 (msV (downM ix sub true 0 b) A4 n c4):=hA.k0;have za:=hA.lt;have zga:=qa.lt;have HDA:=zak (hA.alloc (.cells (msV (downM ix sub true 0 b) A4 n c4) 95));have HBA:=zak (zdg WA 95 (msV (downM ix sub true 0 b) A4 n c4));have HSA:=zak (HDA.out.r0.sl);unfold msV downM at qa HDA HBA HSA;dsimp only at qa HDA HBA HSA
 obtain⟨jG,jH,jI,jJ,jK,jL,jM,jN,jO,jP,iZ,i4,i5,i6⟩:=zde qa;have kP:=qa.frozen;clear hA;go_wp2_with fail
 refine (zhb p (1536+S.nd) [downM ix sub true 0 b] _ 1 1 _ (HDA.out.blk.cell 1 rfl) rfl (zg4 (M:=downM ix sub true 0 b) HBA.out HN.out HSA.out) (zx4 _ _ _ _ _ (by omega)) (by omega)).mono ?_;rintro e w2 ⟨As,ns,cs,ds,rfl,hO,hb⟩;have HF:=zak (zwm (S:={ cBegS S ix sub with b:=b,wk:=12,at_:=(n:Int)+1 }) (R:={ R with A:=A4,n:=n,c:=c4,A2:=A',n2:=0,c2:=c' }) (L:=[downM ix sub true 0 b]) HDA.out HE.out (fun _=>by simp) rfl (fun h=>absurd rfl h) ⟨As,ns,cs,ds,rfl,hO,hb⟩);clear hO hb;go_wp2_with fail
 rw[HP.out];exact HF.out
end
end
section
open Go.RowKit Go.Maps
theorem u32w (n:Nat)(h:n≤4294967295):IntKind.u32.wrap (n:Int)=(n:Int):=by unfold IntKind.wrap;simp[IntKind.signed,IntKind.bits];omega
section
variable {w0:World} {G:Nat→Prop} {p m:Nat} {wk:Int} {cs:List Value} {ks:List KB} {rs:List RB} {x:KB} {W:World}
theorem CM.puts (h:CM w0 G p m wk cs (x :: ks) rs W)(hn: ¬x.g < w0.heap.size)(hk:∀y ∈ ks,y.g≠x.g)(vs:List Value)(o:Nat)(hl:o+vs.length≤x.l.length):CM w0 G p m wk cs (⟨x.g,x.t,x.l.take o ++ vs ++ x.l.drop (o+vs.length)⟩ :: ks) rs (W.setCells x.g o vs):=by
 have h0:=h.keep x (by simp);have ho:zd0 (fun q=>q=x.g) W (W.setCells x.g o vs):=zeb (F:=fun q=>q=x.g) rfl _ _ (zd0.refl _ _);refine⟨(ho.block p h.lt (fun e=>h0.1 e.symm)).trans h.blk,h.wm.keep (ho.block m h.wm.lt (fun e=>h.wm.blk_ne h0.2.2 e.symm)),?_,?_,fun r hr=>⟨⟨(h.rows r hr).1.hn,(h.rows r hr).1.own.keep fun g _ hlt hA=>ho.block g hlt (zek (h.rows r hr).1 h0.2.2 h0.2.1 g hA)⟩,(h.rows r hr).2⟩⟩
 · exact⟨ho.os.trans h.only.os,ho.tape.trans h.only.tape,ho.output.trans h.only.output,Nat.le_trans h.only.size ho.size,fun i hi hF=>(ho.block i (Nat.lt_of_lt_of_le hi h.only.size) (fun e=>hn (by rw[←e];exact hi))).trans (h.only.block i hi hF)⟩
 · intro y hy;rcases List.mem_cons.1 hy with rfl | hy
   · exact⟨h0.1,h0.2.1,zea vs o h0.2.2 hl⟩
   · have h1:=h.keep y (by simp[hy]);exact⟨h1.1,h1.2.1,(ho.block y.g h1.2.2.lt (hk y hy)).trans h1.2.2⟩
end
section
variable {G:Nat→Prop} {p m:Nat}
theorem zx6 (ix sub:Int)(n:Nat)(h:n≤4294967295):∀M ∈ [bdnM ix sub n],MsOk M:=by
 intro M hM;simp at hM;subst hM;exact⟨h,Nat.zero_le _,Nat.zero_le _⟩
theorem zx7 (S:CliS)(ix sub mode:Int)(b:List UInt8)(A:Option Addr)(n c:Nat)(w:World)(hS:CV_ w G p m S)(hb:cBegB ix sub mode=false) :
 Calls Tryz.prog 30 #[.pointer (some ⟨p,0,none⟩),.int .i64 ix,.int .i64 sub,.slice A n c,.int .i64 mode] w (zw3 w G p m (cWriteS S ix sub b mode) (cWriteL S ix sub b mode)):=by
 rw[show cWriteS S ix sub b mode=S by unfold cWriteS;rw[if_pos hb],show cWriteL S ix sub b mode= [] by unfold cWriteL;rw[if_pos hb]];obtain⟨R,hC,hE,hR2⟩:=hS.cm;have HC:=zak hC;have HF:Hid (zw3 w G p m S [] (.returned (.slice none 0 0)) w):=zak ⟨w.heap.size,none,0,0,[],rfl,zg3.nil _ _,Nat.le_refl _,hS.keep (fun _ _ _=>rfl) (fun q h1 h2=>⟨.inl h2,h1⟩),zd0.refl _ _⟩;have HB:=zak hb;clear hS hC hE hR2 hb;go_enter Tryz.func30,Tryz.ntmps30
 go_wp2_with fail
 refine (zes S R ix sub mode w HC.out HB.out).mono ?_;rintro e W1 ⟨rfl,hw1⟩;subst hw1;go_wp2_with fail
 go_ret
 exact HF.out
theorem zx8 (S:CliS)(ix sub mode:Int)(w:World)(hS:CV_ w G p m S)(hb:cBegB ix sub mode=false) :
 Calls Tryz.prog 33 #[.pointer (some ⟨p,0,none⟩),.int .i64 ix,.int .i64 sub,.int .i64 mode] w (zw3 w G p m (cReadS S ix sub mode) (cReadL S ix sub mode)):=by
 rw[show cReadS S ix sub mode=S by unfold cReadS;rw[if_pos hb],show cReadL S ix sub mode= [] by unfold cReadL;rw[if_pos hb]];obtain⟨R,hC,hE,hR2⟩:=hS.cm;have HC:=zak hC;have HF:Hid (zw3 w G p m S [] (.returned (.slice none 0 0)) w):=zak ⟨w.heap.size,none,0,0,[],rfl,zg3.nil _ _,Nat.le_refl _,hS.keep (fun _ _ _=>rfl) (fun q h1 h2=>⟨.inl h2,h1⟩),zd0.refl _ _⟩;have HB:=zak hb;clear hS hC hE hR2 hb;go_enter Tryz.func33,Tryz.ntmps33
 go_wp2_with fail
 refine (zes S R ix sub mode w HC.out HB.out).mono ?_;rintro e W1 ⟨rfl,hw1⟩;subst hw1;go_wp2_with fail
 go_ret
 exact HF.out
theorem zx9 (S:CliS)(ix sub:Int)(b:List UInt8)(A:Option Addr)(n c:Nat)(w:World)(hS:CV_ w G p m S)(hw:0≤S.wk∧S.wk≤21)(hn:n=b.length)(hl:b.length≤100000)(hb:cBegB ix sub 1=true)(hs:∀W',zd0 (fun q=>q=p∨q=m∨G q) w W'→Sl W' A (b.map bv)) :
 Calls Tryz.prog 30 #[.pointer (some ⟨p,0,none⟩),.int .i64 ix,.int .i64 sub,.slice A n c,.int .i64 1] w (zw3 w G p m (cWriteS S ix sub b 1) (cWriteL S ix sub b 1)):=by
 obtain⟨R,hC,hE,hR2⟩:=hS.cm;have HC:=zak hC;have HE:=zak hE;have HW:=zak hw;have HN:=zak hn;have HS:=zak hs;have HBG:=zak hb;have hnl:n≤100000:=by omega
 have hu32:=u32w n (by omega);obtain⟨P,hP⟩:∃P,P=zw3 w G p m (cWriteS S ix sub b 1) (cWriteL S ix sub b 1):=⟨_,rfl⟩;have HP:Hid (P=zw3 w G p m { cBegS S ix sub with b:=b,wk:=12 } (cSend S [downM ix sub true b.length []])):=zak (by
  rw[hP];unfold cWriteS cWriteL;rw[if_neg (by rw[hb];decide),if_neg (by decide),if_neg (by rintro⟨h,_⟩;exact absurd h (by decide)),if_neg (by rw[hb];decide),if_neg (by decide),if_neg (by rintro⟨h,_⟩;exact absurd h (by decide))])
 rw[←hP];clear hS hC hE hR2 hw hn hb hs hP hl;go_enter Tryz.func30,Tryz.ntmps30
 go_wp2_with fail
 refine (zet S R ix sub 1 w HC.out HW.out HBG.out).mono ?_;rintro e W1 ⟨rfl,A',c',h1⟩;have H1:=zak h1;have z1:=h1.lt;have HS1:=zak (HS.out W1 h1.only);clear h1 HC;go_wp2_with (at_builtin;refine zdw _ rfl _ _ rfl W1.heap.size none 0 0 [] rfl (zdv.nil _ _) A n c b rfl HN.out HS1.out (by omega) (Nat.le_refl _) n (by omega) ?_;intro A4 c4 w4 h3 h4 h5 h6;have H2:=zak ((H1.out.step h6).row (h3.mono H1.out.size));have c17:=H2.out.blk.cell 17 rfl;have f17:=H2.out.blk.frozen 17;have z2:=H2.out.lt)
 have H3:Hid (CM w G p m 0 (cliL { cBegS S ix sub with b:=b } m { R with A:=A4,n:=n,c:=c4,A2:=A',n2:=0,c2:=c' }) [] [⟨A4,n,c4,b⟩] (w4.setCell ⟨p,17,none⟩ (.slice A4 n c4))):=zak (H2.out.set 17 _);clear H2 c17 f17 h3 h4 h5 h6 H1 HS1;refine (zx1 { cBegS S ix sub with b:=b } { R with A:=A4,n:=n,c:=c4,A2:=A',n2:=0,c2:=c' } 2 _ H3.out).mono ?_;rintro e w5 ⟨rfl,hb5⟩;have H6:Hid (CM w G p m 0 (cliL { cBegS S ix sub with b:=b } m { R with A:=A4,n:=n,c:=c4,A2:=A',n2:=0,c2:=c' }) [⟨w5.heap.size,95,(msV (placeM 2 ix sub) none 0 0).toList⟩] [⟨A4,n,c4,b⟩] (w5.alloc (.cells (msV (placeM 2 ix sub) none 0 0) 95))):=zak ((H3.out.step hb5).new _ _ (by decide))
 have hw5:w.heap.size≤w5.heap.size:=(H3.out.step hb5).only.size;clear hb5 H3;unfold msV placeM at H6;unfold msV placeM cBegS;dsimp only at H6 ⊢;go_wp2_with fail
 all_goals try (exfalso;omega)
 refine (zem 12 _ H6.out rfl ⟨by omega,by omega⟩ ⟨by omega,by omega⟩).mono ?_;rintro e W7 ⟨rfl,h7⟩;obtain⟨g,hg⟩:∃g,g=w5.heap.size:=⟨_,rfl⟩;rw[←hg] at h7 hw5 ⊢;have H7:Hid (CM w G p m 12 (cliL { cBegS S ix sub with b:=b,wk:=12 } m { R with A:=A4,n:=n,c:=c4,A2:=A',n2:=0,c2:=c' }) [⟨g,95,(msV (placeM 2 ix sub) none 0 0).toList⟩] [⟨A4,n,c4,b⟩] W7):=zak h7;have z7:=h7.lt;clear h7 H6 hg;have q8:Blk W7 g 95 (msV (placeM 2 ix sub) none 0 0):=H7.out.k0;have hgp:g≠p:=(H7.out.keep ⟨g,95,(msV (placeM 2 ix sub) none 0 0).toList⟩ (by simp)).1;have hgw: ¬g < w.heap.size:=by omega
 have zg:=q8.lt;unfold msV placeM at q8;dsimp only at q8;obtain⟨iq,ir,iu,iw,iy,iz,iA,iB,iC,iD,ft,fu,fw,fx⟩:=zde q8;have ju:=q8.frozen;have H9:=zak ((H7.out.put hgw (by simp) 6 (.bool true)).put hgw (by simp) 7 (.int .u32 (n:Nat)));have HDA:=zak (H9.out.alloc (.cells (msV (downM ix sub true n []) none 0 0) 95));have HBA:Hid (∀(W:World) (N:Nat),W.heap.size=N→Blk (W.alloc (.cells (msV (downM ix sub true n []) none 0 0) 95)) N 95 (msV (downM ix sub true n []) none 0 0)):=zak (by rintro W _ rfl;exact zdg W _ _);unfold msV downM at HDA HBA;dsimp only at HDA HBA;go_wp2_with fail
 refine (zhb p (1536+S.nd) [downM ix sub true n []] _ 1 1 _ (HDA.out.blk.cell 1 rfl) rfl (zg4 (M:=downM ix sub true n []) (HBA.out _ W7.heap.size (by simp)) rfl (Sl.nil _ _)) (zx4 _ _ _ _ _ (by omega)) (by omega)).mono ?_;rintro e w2 ⟨As,ns,cs,ds,rfl,hO,hb⟩;have HF:=zak (zwm (S:={ cBegS S ix sub with b:=b,wk:=12 }) (R:={ R with A:=A4,n:=n,c:=c4,A2:=A',n2:=0,c2:=c' }) (L:=[downM ix sub true n []]) HDA.out HE.out (fun _=>by simp) rfl (fun h=>absurd rfl h) ⟨As,ns,cs,ds,rfl,hO,hb⟩);clear hO hb;go_wp2_with fail
 rw[HP.out,←HN.out];exact HF.out
theorem zya (S:CliS)(ix sub:Int)(b:List UInt8)(A:Option Addr)(n c:Nat)(w:World)(hS:CV_ w G p m S)(hw:0≤S.wk∧S.wk≤21)(hn:n=b.length)(hl:b.length≤100000)(hq:b.length=0)(hb:cBegB ix sub 0=true)(hs:∀W',zd0 (fun q=>q=p∨q=m∨G q) w W'→Sl W' A (b.map bv)) :
 Calls Tryz.prog 30 #[.pointer (some ⟨p,0,none⟩),.int .i64 ix,.int .i64 sub,.slice A n c,.int .i64 0] w (zw3 w G p m (cWriteS S ix sub b 0) (cWriteL S ix sub b 0)):=by
 obtain⟨R,hC,hE,hR2⟩:=hS.cm;have HC:=zak hC;have HE:=zak hE;have HW:=zak hw;have HN:=zak hn;have HS:=zak hs;have HBG:=zak hb;have hnl:n≤100000:=by omega
 have hu32:=u32w n (by omega);have d1:decide ((0:Int) < (n:Int))=false:=decide_eq_false (by omega);have hn4: ¬ 0 < n:=by omega
 obtain⟨P,hP⟩:∃P,P=zw3 w G p m (cWriteS S ix sub b 0) (cWriteL S ix sub b 0):=⟨_,rfl⟩;have HP:Hid (P=zw3 w G p m { cBegS S ix sub with b:=b,wk:=12 } (cSend S [downM ix sub true b.length []])):=zak (by
  rw[hP];unfold cWriteS cWriteL;rw[if_neg (by rw[hb];decide),if_neg (by decide),if_neg (by rintro⟨_,h,_⟩;omega),if_neg (by rw[hb];decide),if_neg (by decide),if_neg (by rintro⟨_,h,_⟩;omega)])
 rw[←hP];clear hS hC hE hR2 hw hn hb hs hP hl hq;go_enter Tryz.func30,Tryz.ntmps30
 go_wp2_with fail
 refine (zet S R ix sub 0 w HC.out HW.out HBG.out).mono ?_;rintro e W1 ⟨rfl,A',c',h1⟩;have H1:=zak h1;have z1:=h1.lt;have HS1:=zak (HS.out W1 h1.only);clear h1 HC;go_wp2_with (at_builtin;refine zdw _ rfl _ _ rfl W1.heap.size none 0 0 [] rfl (zdv.nil _ _) A n c b rfl HN.out HS1.out (by omega) (Nat.le_refl _) n (by omega) ?_;intro A4 c4 w4 h3 h4 h5 h6;have H2:=zak ((H1.out.step h6).row (h3.mono H1.out.size));have c17:=H2.out.blk.cell 17 rfl;have f17:=H2.out.blk.frozen 17;have z2:=H2.out.lt)
 have H3:Hid (CM w G p m 0 (cliL { cBegS S ix sub with b:=b } m { R with A:=A4,n:=n,c:=c4,A2:=A',n2:=0,c2:=c' }) [] [⟨A4,n,c4,b⟩] (w4.setCell ⟨p,17,none⟩ (.slice A4 n c4))):=zak (H2.out.set 17 _);clear H2 c17 f17 h3 h4 h5 h6 H1 HS1;refine (zx1 { cBegS S ix sub with b:=b } { R with A:=A4,n:=n,c:=c4,A2:=A',n2:=0,c2:=c' } 2 _ H3.out).mono ?_;rintro e w5 ⟨rfl,hb5⟩;have H6:Hid (CM w G p m 0 (cliL { cBegS S ix sub with b:=b } m { R with A:=A4,n:=n,c:=c4,A2:=A',n2:=0,c2:=c' }) [⟨w5.heap.size,95,(msV (placeM 2 ix sub) none 0 0).toList⟩] [⟨A4,n,c4,b⟩] (w5.alloc (.cells (msV (placeM 2 ix sub) none 0 0) 95))):=zak ((H3.out.step hb5).new _ _ (by decide))
 have hw5:w.heap.size≤w5.heap.size:=(H3.out.step hb5).only.size;clear hb5 H3;unfold msV placeM at H6;unfold msV placeM cBegS;dsimp only at H6 ⊢;go_wp2_with fail
 all_goals try (exfalso;omega)
 refine (zem 12 _ H6.out rfl ⟨by omega,by omega⟩ ⟨by omega,by omega⟩).mono ?_;rintro e W7 ⟨rfl,h7⟩;obtain⟨g,hg⟩:∃g,g=w5.heap.size:=⟨_,rfl⟩;rw[←hg] at h7 hw5 ⊢;have H7:Hid (CM w G p m 12 (cliL { cBegS S ix sub with b:=b,wk:=12 } m { R with A:=A4,n:=n,c:=c4,A2:=A',n2:=0,c2:=c' }) [⟨g,95,(msV (placeM 2 ix sub) none 0 0).toList⟩] [⟨A4,n,c4,b⟩] W7):=zak h7;have z7:=h7.lt;clear h7 H6 hg;have q8:Blk W7 g 95 (msV (placeM 2 ix sub) none 0 0):=H7.out.k0;have hgp:g≠p:=(H7.out.keep ⟨g,95,(msV (placeM 2 ix sub) none 0 0).toList⟩ (by simp)).1;have hgw: ¬g < w.heap.size:=by omega
 have zg:=q8.lt;unfold msV placeM at q8;dsimp only at q8;obtain⟨iq,ir,iu,iw,iy,iz,iA,iB,iC,iD,ft,fu,fw,fx⟩:=zde q8;have ju:=q8.frozen;have H9:=zak ((H7.out.put hgw (by simp) 6 (.bool true)).put hgw (by simp) 7 (.int .u32 (n:Nat)));have HDA:=zak (H9.out.alloc (.cells (msV (downM ix sub true n []) none 0 0) 95));have HBA:Hid (∀(W:World) (N:Nat),W.heap.size=N→Blk (W.alloc (.cells (msV (downM ix sub true n []) none 0 0) 95)) N 95 (msV (downM ix sub true n []) none 0 0)):=zak (by rintro W _ rfl;exact zdg W _ _);unfold msV downM at HDA HBA;dsimp only at HDA HBA;go_wp2_with fail
 refine (zhb p (1536+S.nd) [downM ix sub true n []] _ 1 1 _ (HDA.out.blk.cell 1 rfl) rfl (zg4 (M:=downM ix sub true n []) (HBA.out _ W7.heap.size (by simp)) rfl (Sl.nil _ _)) (zx4 _ _ _ _ _ (by omega)) (by omega)).mono ?_;rintro e w2 ⟨As,ns,cs,ds,rfl,hO,hb⟩;have HF:=zak (zwm (S:={ cBegS S ix sub with b:=b,wk:=12 }) (R:={ R with A:=A4,n:=n,c:=c4,A2:=A',n2:=0,c2:=c' }) (L:=[downM ix sub true n []]) HDA.out HE.out (fun _=>by simp) rfl (fun h=>absurd rfl h) ⟨As,ns,cs,ds,rfl,hO,hb⟩);clear hO hb;go_wp2_with fail
 rw[HP.out,←HN.out];exact HF.out
theorem zyb (S:CliS)(ix sub:Int)(b:List UInt8)(A:Option Addr)(n c:Nat)(w:World)(hS:CV_ w G p m S)(hw:0≤S.wk∧S.wk≤21)(hn:n=b.length)(hl:b.length≤100000)(hq:4 < b.length)(hb:cBegB ix sub 0=true)(hs:∀W',zd0 (fun q=>q=p∨q=m∨G q) w W'→Sl W' A (b.map bv)) :
 Calls Tryz.prog 30 #[.pointer (some ⟨p,0,none⟩),.int .i64 ix,.int .i64 sub,.slice A n c,.int .i64 0] w (zw3 w G p m (cWriteS S ix sub b 0) (cWriteL S ix sub b 0)):=by
 obtain⟨R,hC,hE,hR2⟩:=hS.cm;have HC:=zak hC;have HE:=zak hE;have HW:=zak hw;have HN:=zak hn;have HS:=zak hs;have HBG:=zak hb;have hnl:n≤100000:=by omega
 have hu32:=u32w n (by omega);have d1:decide ((0:Int) < (n:Int))=true:=decide_eq_true (by omega);have d2:decide ((n:Int)≤ 4)=false:=decide_eq_false (by omega);have hn4:4 < n:=by omega
 obtain⟨P,hP⟩:∃P,P=zw3 w G p m (cWriteS S ix sub b 0) (cWriteL S ix sub b 0):=⟨_,rfl⟩;have HP:Hid (P=zw3 w G p m { cBegS S ix sub with b:=b,wk:=12 } (cSend S [downM ix sub true b.length []])):=zak (by
  rw[hP];unfold cWriteS cWriteL;rw[if_neg (by rw[hb];decide),if_neg (by decide),if_neg (by rintro⟨_,_,h⟩;omega),if_neg (by rw[hb];decide),if_neg (by decide),if_neg (by rintro⟨_,_,h⟩;omega)])
 rw[←hP];clear hS hC hE hR2 hw hn hb hs hP hl hq;go_enter Tryz.func30,Tryz.ntmps30
 go_wp2_with fail
 refine (zet S R ix sub 0 w HC.out HW.out HBG.out).mono ?_;rintro e W1 ⟨rfl,A',c',h1⟩;have H1:=zak h1;have z1:=h1.lt;have HS1:=zak (HS.out W1 h1.only);clear h1 HC;go_wp2_with (at_builtin;refine zdw _ rfl _ _ rfl W1.heap.size none 0 0 [] rfl (zdv.nil _ _) A n c b rfl HN.out HS1.out (by omega) (Nat.le_refl _) n (by omega) ?_;intro A4 c4 w4 h3 h4 h5 h6;have H2:=zak ((H1.out.step h6).row (h3.mono H1.out.size));have c17:=H2.out.blk.cell 17 rfl;have f17:=H2.out.blk.frozen 17;have z2:=H2.out.lt)
 have H3:Hid (CM w G p m 0 (cliL { cBegS S ix sub with b:=b } m { R with A:=A4,n:=n,c:=c4,A2:=A',n2:=0,c2:=c' }) [] [⟨A4,n,c4,b⟩] (w4.setCell ⟨p,17,none⟩ (.slice A4 n c4))):=zak (H2.out.set 17 _);clear H2 c17 f17 h3 h4 h5 h6 H1 HS1;refine (zx1 { cBegS S ix sub with b:=b } { R with A:=A4,n:=n,c:=c4,A2:=A',n2:=0,c2:=c' } 2 _ H3.out).mono ?_;rintro e w5 ⟨rfl,hb5⟩;have H6:Hid (CM w G p m 0 (cliL { cBegS S ix sub with b:=b } m { R with A:=A4,n:=n,c:=c4,A2:=A',n2:=0,c2:=c' }) [⟨w5.heap.size,95,(msV (placeM 2 ix sub) none 0 0).toList⟩] [⟨A4,n,c4,b⟩] (w5.alloc (.cells (msV (placeM 2 ix sub) none 0 0) 95))):=zak ((H3.out.step hb5).new _ _ (by decide))
 have hw5:w.heap.size≤w5.heap.size:=(H3.out.step hb5).only.size;clear hb5 H3;unfold msV placeM at H6;unfold msV placeM cBegS;dsimp only at H6 ⊢;go_wp2_with fail
 all_goals try (exfalso;omega)
 refine (zem 12 _ H6.out rfl ⟨by omega,by omega⟩ ⟨by omega,by omega⟩).mono ?_;rintro e W7 ⟨rfl,h7⟩;obtain⟨g,hg⟩:∃g,g=w5.heap.size:=⟨_,rfl⟩;rw[←hg] at h7 hw5 ⊢;have H7:Hid (CM w G p m 12 (cliL { cBegS S ix sub with b:=b,wk:=12 } m { R with A:=A4,n:=n,c:=c4,A2:=A',n2:=0,c2:=c' }) [⟨g,95,(msV (placeM 2 ix sub) none 0 0).toList⟩] [⟨A4,n,c4,b⟩] W7):=zak h7;have z7:=h7.lt;clear h7 H6 hg;have q8:Blk W7 g 95 (msV (placeM 2 ix sub) none 0 0):=H7.out.k0;have hgp:g≠p:=(H7.out.keep ⟨g,95,(msV (placeM 2 ix sub) none 0 0).toList⟩ (by simp)).1;have hgw: ¬g < w.heap.size:=by omega
 have zg:=q8.lt;unfold msV placeM at q8;dsimp only at q8;obtain⟨iq,ir,iu,iw,iy,iz,iA,iB,iC,iD,ft,fu,fw,fx⟩:=zde q8;have ju:=q8.frozen;have H9:=zak ((H7.out.put hgw (by simp) 6 (.bool true)).put hgw (by simp) 7 (.int .u32 (n:Nat)));have HDA:=zak (H9.out.alloc (.cells (msV (downM ix sub true n []) none 0 0) 95));have HBA:Hid (∀(W:World) (N:Nat),W.heap.size=N→Blk (W.alloc (.cells (msV (downM ix sub true n []) none 0 0) 95)) N 95 (msV (downM ix sub true n []) none 0 0)):=zak (by rintro W _ rfl;exact zdg W _ _);unfold msV downM at HDA HBA;dsimp only at HDA HBA;go_wp2_with fail
 refine (zhb p (1536+S.nd) [downM ix sub true n []] _ 1 1 _ (HDA.out.blk.cell 1 rfl) rfl (zg4 (M:=downM ix sub true n []) (HBA.out _ W7.heap.size (by simp)) rfl (Sl.nil _ _)) (zx4 _ _ _ _ _ (by omega)) (by omega)).mono ?_;rintro e w2 ⟨As,ns,cs,ds,rfl,hO,hb⟩;have HF:=zak (zwm (S:={ cBegS S ix sub with b:=b,wk:=12 }) (R:={ R with A:=A4,n:=n,c:=c4,A2:=A',n2:=0,c2:=c' }) (L:=[downM ix sub true n []]) HDA.out HE.out (fun _=>by simp) rfl (fun h=>absurd rfl h) ⟨As,ns,cs,ds,rfl,hO,hb⟩);clear hO hb;go_wp2_with fail
 rw[HP.out,←HN.out];exact HF.out
theorem zyc (S:CliS)(ix sub:Int)(b:List UInt8)(A:Option Addr)(n c:Nat)(w:World)(hS:CV_ w G p m S)(hw:0≤S.wk∧S.wk≤21)(hn:n=b.length)(hl:b.length≤100000)(hb:cBegB ix sub 2=true)(hs:∀W',zd0 (fun q=>q=p∨q=m∨G q) w W'→Sl W' A (b.map bv)) :
 Calls Tryz.prog 30 #[.pointer (some ⟨p,0,none⟩),.int .i64 ix,.int .i64 sub,.slice A n c,.int .i64 2] w (zw3 w G p m (cWriteS S ix sub b 2) (cWriteL S ix sub b 2)):=by
 obtain⟨R,hC,hE,hR2⟩:=hS.cm;have HC:=zak hC;have HE:=zak hE;have HW:=zak hw;have HN:=zak hn;have HS:=zak hs;have HBG:=zak hb;have hnl:n≤100000:=by omega
 have hu32:=u32w n (by omega);obtain⟨P,hP⟩:∃P,P=zw3 w G p m (cWriteS S ix sub b 2) (cWriteL S ix sub b 2):=⟨_,rfl⟩;have HP:Hid (P=zw3 w G p m { cBegS S ix sub with b:=b,wk:=16 } (cSend S [bdnM ix sub b.length])):=zak (by
  rw[hP];unfold cWriteS cWriteL;rw[if_neg (by rw[hb];decide),if_pos rfl,if_neg (by rw[hb];decide),if_pos rfl])
 rw[←hP];clear hS hC hE hR2 hw hn hb hs hP hl;go_enter Tryz.func30,Tryz.ntmps30
 go_wp2_with fail
 refine (zet S R ix sub 2 w HC.out HW.out HBG.out).mono ?_;rintro e W1 ⟨rfl,A',c',h1⟩;have H1:=zak h1;have z1:=h1.lt;have HS1:=zak (HS.out W1 h1.only);clear h1 HC;go_wp2_with (at_builtin;refine zdw _ rfl _ _ rfl W1.heap.size none 0 0 [] rfl (zdv.nil _ _) A n c b rfl HN.out HS1.out (by omega) (Nat.le_refl _) n (by omega) ?_;intro A4 c4 w4 h3 h4 h5 h6;have H2:=zak ((H1.out.step h6).row (h3.mono H1.out.size));have c17:=H2.out.blk.cell 17 rfl;have f17:=H2.out.blk.frozen 17;have z2:=H2.out.lt)
 have H3:Hid (CM w G p m 0 (cliL { cBegS S ix sub with b:=b } m { R with A:=A4,n:=n,c:=c4,A2:=A',n2:=0,c2:=c' }) [] [⟨A4,n,c4,b⟩] (w4.setCell ⟨p,17,none⟩ (.slice A4 n c4))):=zak (H2.out.set 17 _);clear H2 c17 f17 h3 h4 h5 h6 H1 HS1;refine (zx1 { cBegS S ix sub with b:=b } { R with A:=A4,n:=n,c:=c4,A2:=A',n2:=0,c2:=c' } 2 _ H3.out).mono ?_;rintro e w5 ⟨rfl,hb5⟩;have H6:Hid (CM w G p m 0 (cliL { cBegS S ix sub with b:=b } m { R with A:=A4,n:=n,c:=c4,A2:=A',n2:=0,c2:=c' }) [⟨w5.heap.size,95,(msV (placeM 2 ix sub) none 0 0).toList⟩] [⟨A4,n,c4,b⟩] (w5.alloc (.cells (msV (placeM 2 ix sub) none 0 0) 95))):=zak ((H3.out.step hb5).new _ _ (by decide))
 have hw5:w.heap.size≤w5.heap.size:=(H3.out.step hb5).only.size;clear hb5 H3;unfold msV placeM at H6;unfold msV placeM cBegS;dsimp only at H6 ⊢;go_wp2_with fail
 all_goals try (exfalso;omega)
 refine (zem 16 _ H6.out rfl ⟨by omega,by omega⟩ ⟨by omega,by omega⟩).mono ?_;rintro e W7 ⟨rfl,h7⟩;obtain⟨g,hg⟩:∃g,g=w5.heap.size:=⟨_,rfl⟩;rw[←hg] at h7 hw5 ⊢;have H7:Hid (CM w G p m 16 (cliL { cBegS S ix sub with b:=b,wk:=16 } m { R with A:=A4,n:=n,c:=c4,A2:=A',n2:=0,c2:=c' }) [⟨g,95,(msV (placeM 2 ix sub) none 0 0).toList⟩] [⟨A4,n,c4,b⟩] W7):=zak h7;have z7:=h7.lt;clear h7 H6 hg;go_wp2_with fail
 refine (zx1 { cBegS S ix sub with b:=b,wk:=16 } { R with A:=A4,n:=n,c:=c4,A2:=A',n2:=0,c2:=c' } 6 _ H7.out).mono ?_;rintro e W9 ⟨rfl,hb9⟩;have H8:=zak (H7.out.step hb9);have q8:Blk W9 g 95 (msV (placeM 2 ix sub) none 0 0):=H8.out.k0;have hgp:g≠p:=(H8.out.keep ⟨g,95,(msV (placeM 2 ix sub) none 0 0).toList⟩ (by simp)).1;have hgw: ¬g < w.heap.size:=by omega
 have z9:=H8.out.lt;have zg:=q8.lt;have H9:Hid (CM w G p m 16 (cliL { cBegS S ix sub with b:=b,wk:=16 } m { R with A:=A4,n:=n,c:=c4,A2:=A',n2:=0,c2:=c' }) [⟨g,95,[.int .i64 6,.int .i64 ix,.int .i64 sub,.bool false,.bool false,.bool false,.bool false,.int .u32 (0:Nat),.int .u32 (0:Nat),.slice none 0 0,.int .i64 0,.int .i64 0,.int .i64 0,.int .u16 (0:Nat)]⟩] [⟨A4,n,c4,b⟩] (W9.setCells g 0 [.int .i64 6,.int .i64 ix,.int .i64 sub,.bool false,.bool false,.bool false,.bool false,.int .u32 (0:Nat),.int .u32 (0:Nat),.slice none 0 0,.int .i64 0,.int .i64 0,.int .i64 0,.int .u16 (0:Nat)])):=zak (H8.out.puts (x:=⟨g,95,(msV (placeM 2 ix sub) none 0 0).toList⟩) hgw (by simp) [.int .i64 6,.int .i64 ix,.int .i64 sub,.bool false,.bool false,.bool false,.bool false,.int .u32 (0:Nat),.int .u32 (0:Nat),.slice none 0 0,.int .i64 0,.int .i64 0,.int .i64 0,.int .u16 (0:Nat)] 0 (by simp[msV]))
 clear H7 hb9 z7 H8;unfold msV placeM at q8;dsimp only at q8;obtain⟨iq,ir,iu,iw,iy,iz,iA,iB,iC,iD,ft,fu,fw,fx⟩:=zde q8;have ju:=q8.frozen;simp only[World.setCells,Nat.reduceAdd] at H9;unfold msV placeM cBegS;dsimp only;go_upto_region 12 with fail
 refine zed (P:=CM w G p m 16 (cliL { cBegS S ix sub with b:=b,wk:=16 } m { R with A:=A4,n:=n,c:=c4,A2:=A',n2:=0,c2:=c' }) [⟨g,95,[.int .i64 6,.int .i64 ix,.int .i64 sub,.bool false,.bool false,.bool false,.bool false,.int .u32 (0:Nat),.int .u32 (0:Nat),.slice none 0 0,.int .i64 0,.int .i64 0,.int .i64 0,.int .u16 (0:Nat)]⟩] [⟨A4,n,c4,b⟩]) (by exact H9.out) (fun WA hA=>?_);clear H9 iq ir iu iw iy iz iA iB iC iD ft fu fw fx ju z9 zg q8;have H9:=zak ((((hA.put hgw (by simp) 5 (.bool true)).put hgw (by simp) 6 (.bool true)).put hgw (by simp) 7 (.int .u32 (n:Nat))));have qa:Blk WA g 95 [.int .i64 6,.int .i64 ix,.int .i64 sub,.bool false,.bool false,.bool false,.bool false,.int .u32 (0:Nat),.int .u32 (0:Nat),.slice none 0 0,.int .i64 0,.int .i64 0,.int .i64 0,.int .u16 (0:Nat)].toArray:=hA.k0
 have zg:=qa.lt;have za:=hA.lt;obtain⟨jG,jH,jI,jJ,jK,jL,jM,jN,jO,jP,iZ,i4,i5,i6⟩:=zde qa;have kP:=qa.frozen;clear hA;go_upto_region 13 with fail
 refine zed (P:=CM w G p m 16 (cliL { cBegS S ix sub with b:=b,wk:=16 } m { R with A:=A4,n:=n,c:=c4,A2:=A',n2:=0,c2:=c' }) [⟨g,95,(msV (bdnM ix sub n) none 0 0).toList⟩] [⟨A4,n,c4,b⟩]) (by exact H9.out) (fun WB hB=>?_);clear H9 jG jH jI jJ jK jL jM jN jO jP iZ i4 i5 i6 kP za zg qa;have H9:=zak hB;have qb:Blk WB g 95 (msV (bdnM ix sub n) none 0 0):=hB.k0;have zb:=qb.lt;have zc:=hB.lt;unfold msV bdnM at qb;dsimp only at qb;obtain⟨nl,nt,nu,nv,nw,ny,nz,nA,nB,nC,l6,l7,l8,l9⟩:=zde qb;have nK:=qb.frozen;clear hB;have HDA:=zak (H9.out.alloc (.cells (msV (bdnM ix sub n) none 0 0) 95));have HBA:Hid (∀(W:World) (N:Nat),W.heap.size=N→Blk (W.alloc (.cells (msV (bdnM ix sub n) none 0 0) 95)) N 95 (msV (bdnM ix sub n) none 0 0)):=zak (by rintro W _ rfl;exact zdg W _ _)
 unfold msV bdnM at HDA HBA;dsimp only at HDA HBA;go_wp2_with fail
 refine (zhb p (1536+S.nd) [bdnM ix sub n] _ 1 1 _ (HDA.out.blk.cell 1 rfl) rfl (zg4 (M:=bdnM ix sub n) (HBA.out _ WB.heap.size (by simp)) rfl (Sl.nil _ _)) (zx6 _ _ _ (by omega)) (by omega)).mono ?_;rintro e w2 ⟨As,ns,cs,ds,rfl,hO,hb⟩;have HF:=zak (zwm (S:={ cBegS S ix sub with b:=b,wk:=16 }) (R:={ R with A:=A4,n:=n,c:=c4,A2:=A',n2:=0,c2:=c' }) (L:=[bdnM ix sub n]) HDA.out HE.out (fun _=>by simp) rfl (fun h=>absurd rfl h) ⟨As,ns,cs,ds,rfl,hO,hb⟩);clear hO hb;go_wp2_with fail
 rw[HP.out,←HN.out];exact HF.out
theorem zyd (S:CliS)(ix sub:Int)(w:World)(hS:CV_ w G p m S)(hw:0≤S.wk∧S.wk≤21)(hb:cBegB ix sub 2=true) :
 Calls Tryz.prog 33 #[.pointer (some ⟨p,0,none⟩),.int .i64 ix,.int .i64 sub,.int .i64 2] w (zw3 w G p m (cReadS S ix sub 2) (cReadL S ix sub 2)):=by
 obtain⟨R,hC,hE,hR2⟩:=hS.cm;have HC:=zak hC;have HE:=zak hE;have HW:=zak hw;have HBG:=zak hb;obtain⟨P,hP⟩:∃P,P=zw3 w G p m (cReadS S ix sub 2) (cReadL S ix sub 2):=⟨_,rfl⟩;have HP:Hid (P=zw3 w G p m { cBegS S ix sub with wk:=19 } (cSend S [buM ix sub])):=zak (by
  rw[hP];unfold cReadS cReadL;rw[if_neg (by rw[hb];decide),if_pos rfl,if_neg (by rw[hb];decide),if_pos rfl])
 rw[←hP];clear hS hC hE hR2 hw hb hP;go_enter Tryz.func33,Tryz.ntmps33
 go_wp2_with fail
 refine (zet S R ix sub 2 w HC.out HW.out HBG.out).mono ?_;rintro e W1 ⟨rfl,A',c',h1⟩;have H1:=zak (h1.row (zdv.nil _ _));have z1:=h1.lt;clear h1 HC;go_wp2_with fail
 refine (zem 19 _ H1.out rfl ⟨by omega,by omega⟩ ⟨by omega,by omega⟩).mono ?_;rintro e W7 ⟨rfl,h7⟩;have H7:Hid (CM w G p m 19 (cliL { cBegS S ix sub with wk:=19 } m { R with A:=none,n:=0,c:=0,A2:=A',n2:=0,c2:=c' }) [] [⟨none,0,0,[]⟩] W7):=zak h7;have z7:=h7.lt;clear h7 H1;go_wp2_with fail
 refine (zx1 { cBegS S ix sub with wk:=19 } { R with A:=none,n:=0,c:=0,A2:=A',n2:=0,c2:=c' } 8 _ H7.out).mono ?_;rintro e W9 ⟨rfl,hb9⟩;have H8:=zak (H7.out.step hb9);have z9:=H8.out.lt;have hgw: ¬W9.heap.size < w.heap.size:=by have:=H8.out.size;omega
 clear H7 hb9 z7;have H9:=zak (H8.out.new 95 (msV (buM ix sub) none 0 0).toList (by decide));have HDA:=zak (H9.out.alloc (.cells (msV (buM ix sub) none 0 0) 95));have HBA:Hid (∀(W:World) (N:Nat),W.heap.size=N→Blk (W.alloc (.cells (msV (buM ix sub) none 0 0) 95)) N 95 (msV (buM ix sub) none 0 0)):=zak (by rintro W _ rfl;exact zdg W _ _);unfold msV buM at HDA HBA;unfold msV placeM cBegS;dsimp only at HDA HBA ⊢;go_wp2_with fail
 refine (zhb p (1536+S.nd) [buM ix sub] _ 1 1 _ (HDA.out.blk.cell 1 rfl) rfl (zg4 (M:=buM ix sub) (HBA.out _ (W9.heap.size+1) (by simp)) rfl (Sl.nil _ _)) (by intro M hM;simp at hM;subst hM;exact⟨Nat.zero_le _,Nat.zero_le _,Nat.zero_le _⟩) (by omega)).mono ?_;rintro e w2 ⟨As,ns,cs,ds,rfl,hO,hb⟩;have HF:=zak (zwm (S:={ cBegS S ix sub with wk:=19 }) (R:={ R with A:=none,n:=0,c:=0,A2:=A',n2:=0,c2:=c' }) (L:=[buM ix sub]) HDA.out HE.out (fun _=>List.mem_cons_self) rfl (fun h=>absurd rfl h) ⟨As,ns,cs,ds,rfl,hO,hb⟩);clear hO hb;go_wp2_with fail
 rw[HP.out];exact HF.out
theorem zye (S:CliS)(ix sub mode:Int)(w:World)(hS:CV_ w G p m S)(hw:0≤S.wk∧S.wk≤21)(hm:mode≠2)(hb:cBegB ix sub mode=true) :
 Calls Tryz.prog 33 #[.pointer (some ⟨p,0,none⟩),.int .i64 ix,.int .i64 sub,.int .i64 mode] w (zw3 w G p m (cReadS S ix sub mode) (cReadL S ix sub mode)):=by
 obtain⟨R,hC,hE,hR2⟩:=hS.cm;have HC:=zak hC;have HE:=zak hE;have HW:=zak hw;have HBG:=zak hb;obtain⟨P,hP⟩:∃P,P=zw3 w G p m (cReadS S ix sub mode) (cReadL S ix sub mode):=⟨_,rfl⟩;have HP:Hid (P=zw3 w G p m { cBegS S ix sub with wk:=14 } (cSend S [uplM ix sub])):=zak (by
  rw[hP];unfold cReadS cReadL;rw[if_neg (by rw[hb];decide),if_neg hm,if_neg (by rw[hb];decide),if_neg hm])
 rw[←hP];clear hS hC hE hR2 hw hb hP;go_enter Tryz.func33,Tryz.ntmps33
 go_wp2_with fail
 refine (zet S R ix sub mode w HC.out HW.out HBG.out).mono ?_;rintro e W1 ⟨rfl,A',c',h1⟩;have H1:=zak (h1.row (zdv.nil _ _));have z1:=h1.lt;clear h1 HC;go_wp2_with fail
 refine (zem 14 _ H1.out rfl ⟨by omega,by omega⟩ ⟨by omega,by omega⟩).mono ?_;rintro e W7 ⟨rfl,h7⟩;have H7:Hid (CM w G p m 14 (cliL { cBegS S ix sub with wk:=14 } m { R with A:=none,n:=0,c:=0,A2:=A',n2:=0,c2:=c' }) [] [⟨none,0,0,[]⟩] W7):=zak h7;have z7:=h7.lt;clear h7 H1;go_wp2_with fail
 refine (zx1 { cBegS S ix sub with wk:=14 } { R with A:=none,n:=0,c:=0,A2:=A',n2:=0,c2:=c' } 4 _ H7.out).mono ?_;rintro e W9 ⟨rfl,hb9⟩;have H8:=zak (H7.out.step hb9);have z9:=H8.out.lt;have hgw: ¬W9.heap.size < w.heap.size:=by have:=H8.out.size;omega
 clear H7 hb9 z7;have HDA:=zak (H8.out.alloc (.cells (msV (uplM ix sub) none 0 0) 95));have HBA:Hid (∀(W:World) (N:Nat),W.heap.size=N→Blk (W.alloc (.cells (msV (uplM ix sub) none 0 0) 95)) N 95 (msV (uplM ix sub) none 0 0)):=zak (by rintro W _ rfl;exact zdg W _ _);unfold msV uplM at HDA HBA;unfold msV placeM cBegS;dsimp only at HDA HBA ⊢;go_wp2_with fail
 refine (zhb p (1536+S.nd) [uplM ix sub] _ 1 1 _ (HDA.out.blk.cell 1 rfl) rfl (zg4 (M:=uplM ix sub) (HBA.out _ (W9.heap.size) (by simp)) rfl (Sl.nil _ _)) (by intro M hM;simp at hM;subst hM;exact⟨Nat.zero_le _,Nat.zero_le _,Nat.zero_le _⟩) (by omega)).mono ?_;rintro e w2 ⟨As,ns,cs,ds,rfl,hO,hb⟩;have HF:=zak (zwm (S:={ cBegS S ix sub with wk:=14 }) (R:={ R with A:=none,n:=0,c:=0,A2:=A',n2:=0,c2:=c' }) (L:=[uplM ix sub]) HDA.out HE.out (fun _=>List.mem_cons_self) rfl (fun h=>absurd rfl h) ⟨As,ns,cs,ds,rfl,hO,hb⟩);clear hO hb;go_wp2_with fail
 rw[HP.out];exact HF.out
end
end
end Go.Proofs.YtkkpjbjmhaecjaaGreat
