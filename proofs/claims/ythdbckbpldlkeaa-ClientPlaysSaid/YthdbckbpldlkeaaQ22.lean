/- None -/
import Derived.Test.YthdbckbpldlkeaaQ20
import Derived.Test.YthdbckbpldlkeaaQ21
namespace Go.Proofs.Ythdbckbpldlkeaa
set_option linter.unusedVariables false
set_option linter.unusedSimpArgs false
set_option linter.unnecessarySimpa false
section
open Go.RowKit Go.Maps
set_option maxRecDepth 100000
set_option maxHeartbeats 8000000
theorem u32w (n:Nat) (h:n≤4294967295):IntKind.u32.wrap (n:Int)=(n:Int):= by unfold IntKind.wrap;simp[IntKind.signed,IntKind.bits];omega
section
variable {w0:World} {G:Nat→Prop} {p m:Nat} {wk:Int} {cs:List Value} {ks:List KB} {rs:List RB} {x:KB} {W:World}
theorem CM.puts (h:CM w0 G p m wk cs (x :: ks) rs W) (hn: ¬ x.g < w0.heap.size) (hk:∀ y ∈ ks,y.g≠x.g) (vs:List Value) (o:Nat) (hl:o+vs.length≤x.l.length):CM w0 G p m wk cs (⟨x.g,x.t,x.l.take o ++ vs ++ x.l.drop (o+vs.length)⟩ :: ks) rs (W.setCells x.g o vs):= by
 have h0:=h.keep x (by simp)
 have ho:zcd (fun q=>q=x.g) W (W.setCells x.g o vs):= zcm (F:=fun q=>q=x.g) rfl _ _ (zcd.refl _ _)
 refine⟨(ho.block p h.lt (fun e=>h0.1 e.symm)).trans h.blk,h.wm.keep (ho.block m h.wm.lt (fun e=>h.wm.blk_ne h0.2.2 e.symm)),?_,?_,fun r hr=>⟨⟨(h.rows r hr).1.hn,(h.rows r hr).1.own.keep fun g _ hlt hA=>ho.block g hlt (zcu (h.rows r hr).1 h0.2.2 h0.2.1 g hA)⟩,(h.rows r hr).2⟩⟩
 · exact⟨ho.os.trans h.only.os,ho.tape.trans h.only.tape,ho.output.trans h.only.output,Nat.le_trans h.only.size ho.size,fun i hi hF=>(ho.block i (Nat.lt_of_lt_of_le hi h.only.size) (fun e=>hn (by rw[← e];exact hi))).trans (h.only.block i hi hF)⟩
 · intro y hy
   rcases List.mem_cons.1 hy with rfl | hy
   · exact⟨h0.1,h0.2.1,zcl vs o h0.2.2 hl⟩
   · have h1:=h.keep y (by simp[hy])
     exact⟨h1.1,h1.2.1,(ho.block y.g h1.2.2.lt (hk y hy)).trans h1.2.2⟩
end
section
variable {G:Nat→Prop} {p m:Nat}
theorem zid (ix sub:Int) (n:Nat) (h:n≤4294967295):∀ M ∈ [bdnM ix sub n],MsOk M:=by
 intro M hM
 simp at hM
 subst hM
 exact⟨h,Nat.zero_le _,Nat.zero_le _⟩
theorem zie (S:CliS) (ix sub mode:Int) (b:List UInt8) (A:Option Addr) (n c:Nat) (w:World) (hS:CV_ w G p m S) (hb:cBegB ix sub mode=false) :
 Calls Try.prog 10 #[.pointer (some ⟨p,0,none⟩),.int .i64 ix,.int .i64 sub,.slice A n c,.int .i64 mode] w (zf4 w G p m (cWriteS S ix sub b mode) (cWriteL S ix sub b mode)):= by
 rw[show cWriteS S ix sub b mode=S by unfold cWriteS;rw[if_pos hb],show cWriteL S ix sub b mode= [] by unfold cWriteL;rw[if_pos hb]]
 obtain⟨R,hC,hE,hR2⟩:= hS.cm
 have HC:=zak hC
 have HF:Hid (zf4 w G p m S [] (.returned (.slice none 0 0)) w):= zak ⟨w.heap.size,none,0,0,[],rfl,zfe.nil _ _,Nat.le_refl _,hS.keep (fun _ _ _=>rfl) (fun q h1 h2=>⟨.inl h2,h1⟩),zcd.refl _ _⟩
 have HB:=zak hb
 clear hS hC hE hR2 hb
 go_enter Try.func10,Try.ntmps10
 go_wp2_with fail
 refine (zc2 S R ix sub mode w HC.out HB.out).mono ?_
 rintro e W1 ⟨rfl,hw1⟩
 subst hw1
 go_wp2_with fail
 go_ret
 exact HF.out
theorem zif (S:CliS) (ix sub mode:Int) (w:World) (hS:CV_ w G p m S) (hb:cBegB ix sub mode=false) :
 Calls Try.prog 14 #[.pointer (some ⟨p,0,none⟩),.int .i64 ix,.int .i64 sub,.int .i64 mode] w (zf4 w G p m (cReadS S ix sub mode) (cReadL S ix sub mode)):= by
 rw[show cReadS S ix sub mode=S by unfold cReadS;rw[if_pos hb],show cReadL S ix sub mode= [] by unfold cReadL;rw[if_pos hb]]
 obtain⟨R,hC,hE,hR2⟩:= hS.cm
 have HC:=zak hC
 have HF:Hid (zf4 w G p m S [] (.returned (.slice none 0 0)) w):= zak ⟨w.heap.size,none,0,0,[],rfl,zfe.nil _ _,Nat.le_refl _,hS.keep (fun _ _ _=>rfl) (fun q h1 h2=>⟨.inl h2,h1⟩),zcd.refl _ _⟩
 have HB:=zak hb
 clear hS hC hE hR2 hb
 go_enter Try.func14,Try.ntmps14
 go_wp2_with fail
 refine (zc2 S R ix sub mode w HC.out HB.out).mono ?_
 rintro e W1 ⟨rfl,hw1⟩
 subst hw1
 go_wp2_with fail
 go_ret
 exact HF.out
theorem zig (S:CliS) (ix sub:Int) (b:List UInt8) (A:Option Addr) (n c:Nat) (w:World) (hS:CV_ w G p m S) (hw:0≤S.wk∧S.wk≤21) (hn:n=b.length) (hl:b.length≤100000) (hb:cBegB ix sub 1=true) (hs:∀ W',zcd (fun q=>q=p∨q=m∨G q) w W'→Sl W' A (b.map bv)) :
 Calls Try.prog 10 #[.pointer (some ⟨p,0,none⟩),.int .i64 ix,.int .i64 sub,.slice A n c,.int .i64 1] w (zf4 w G p m (cWriteS S ix sub b 1) (cWriteL S ix sub b 1)):= by
 obtain⟨R,hC,hE,hR2⟩:= hS.cm
 have HC:=zak hC
 have HE:=zak hE
 have HW:=zak hw
 have HN:=zak hn
 have HS:=zak hs
 have HBG:=zak hb
 have hnl:n≤100000:=by omega
 have hu32:=u32w n (by omega)
 obtain⟨P,hP⟩:∃ P,P=zf4 w G p m (cWriteS S ix sub b 1) (cWriteL S ix sub b 1):= ⟨_,rfl⟩
 have HP:Hid (P=zf4 w G p m { cBegS S ix sub with b:=b,wk:=12 } (cSend S [downM ix sub true b.length []])):= zak (by
  rw[hP]
  unfold cWriteS cWriteL
  rw[if_neg (by rw[hb];decide),if_neg (by decide),if_neg (by rintro⟨h,_⟩;exact absurd h (by decide)),if_neg (by rw[hb];decide),if_neg (by decide),if_neg (by rintro⟨h,_⟩;exact absurd h (by decide))])
 rw[← hP]
 clear hS hC hE hR2 hw hn hb hs hP hl
 go_enter Try.func10,Try.ntmps10
 go_wp2_with fail
 refine (zc3 S R ix sub 1 w HC.out HW.out HBG.out).mono ?_
 rintro e W1 ⟨rfl,A',c',h1⟩
 have H1:=zak h1
 have z1:=h1.lt
 have HS1:=zak (HS.out W1 h1.only)
 clear h1 HC
 go_wp2_with (at_builtin;refine zb8 _ rfl _ _ rfl W1.heap.size none 0 0 [] rfl (zb7.nil _ _) A n c b rfl HN.out HS1.out (by omega) (Nat.le_refl _) n (by omega) ?_;intro A4 c4 w4 h3 h4 h5 h6;have H2:=zak ((H1.out.step h6).row (h3.mono H1.out.size));have c17:=H2.out.blk.cell 17 rfl;have f17:=H2.out.blk.frozen 17;have z2:=H2.out.lt)
 have H3:Hid (CM w G p m 0 (cliL { cBegS S ix sub with b:=b } m { R with A:=A4,n:=n,c:=c4,A2:=A',n2:=0,c2:=c' }) [] [⟨A4,n,c4,b⟩] (w4.setCell ⟨p,17,none⟩ (.slice A4 n c4))):= zak (H2.out.set 17 _)
 clear H2 c17 f17 h3 h4 h5 h6 H1 HS1
 refine (zh8 { cBegS S ix sub with b:=b } { R with A:=A4,n:=n,c:=c4,A2:=A',n2:=0,c2:=c' } 2 _ H3.out).mono ?_
 rintro e w5 ⟨rfl,hb5⟩
 have H6:Hid (CM w G p m 0 (cliL { cBegS S ix sub with b:=b } m { R with A:=A4,n:=n,c:=c4,A2:=A',n2:=0,c2:=c' }) [⟨w5.heap.size,63,(msV (placeM 2 ix sub) none 0 0).toList⟩] [⟨A4,n,c4,b⟩] (w5.alloc (.cells (msV (placeM 2 ix sub) none 0 0) 63))):= zak ((H3.out.step hb5).new _ _ (by decide))
 have hw5:w.heap.size≤w5.heap.size:=(H3.out.step hb5).only.size
 clear hb5 H3
 unfold msV placeM at H6
 unfold msV placeM cBegS
 dsimp only at H6 ⊢
 go_wp2_with fail
 all_goals try (exfalso;omega)
 refine (zcw 12 _ H6.out rfl ⟨by omega,by omega⟩ ⟨by omega,by omega⟩).mono ?_
 rintro e W7 ⟨rfl,h7⟩
 obtain⟨g,hg⟩:∃ g,g=w5.heap.size:=⟨_,rfl⟩
 rw[← hg] at h7 hw5 ⊢
 have H7:Hid (CM w G p m 12 (cliL { cBegS S ix sub with b:=b,wk:=12 } m { R with A:=A4,n:=n,c:=c4,A2:=A',n2:=0,c2:=c' }) [⟨g,63,(msV (placeM 2 ix sub) none 0 0).toList⟩] [⟨A4,n,c4,b⟩] W7):= zak h7
 have z7:=h7.lt
 clear h7 H6 hg
 have q8:Blk W7 g 63 (msV (placeM 2 ix sub) none 0 0):= H7.out.k0
 have hgp:g≠p:=(H7.out.keep ⟨g,63,(msV (placeM 2 ix sub) none 0 0).toList⟩ (by simp)).1
 have hgw: ¬ g < w.heap.size:=by omega
 have zg:=q8.lt
 unfold msV placeM at q8
 dsimp only at q8
 obtain⟨q8_c0,q8_c1,q8_c2,q8_c3,q8_c4,q8_c5,q8_c6,q8_c7,q8_c8,q8_c9,q8_c10,q8_c11,q8_c12,q8_c13⟩:= zbs q8
 have q8_f:=q8.frozen
 have H9:=zak ((H7.out.put hgw (by simp) 6 (.bool true)).put hgw (by simp) 7 (.int .u32 (n:Nat)))
 have HDA:=zak (H9.out.alloc (.cells (msV (downM ix sub true n []) none 0 0) 63))
 have HBA:Hid (∀ (W:World) (N:Nat),W.heap.size=N→Blk (W.alloc (.cells (msV (downM ix sub true n []) none 0 0) 63)) N 63 (msV (downM ix sub true n []) none 0 0)):= zak (by rintro W _ rfl;exact zbu W _ _)
 unfold msV downM at HDA HBA
 dsimp only at HDA HBA
 go_wp2_with fail
 refine (zfj p (1536+S.nd) [downM ix sub true n []] _ 1 1 _ (HDA.out.blk.cell 1 rfl) rfl (zff (M:=downM ix sub true n []) (HBA.out _ W7.heap.size (by simp)) rfl (Sl.nil _ _)) (zib _ _ _ _ _ (by omega)) (by omega)).mono ?_
 rintro e w2 ⟨As,ns,cs,ds,rfl,hO,hb⟩
 have HF:=zak (zfp (S:={ cBegS S ix sub with b:=b,wk:=12 }) (R:={ R with A:=A4,n:=n,c:=c4,A2:=A',n2:=0,c2:=c' }) (L:= [downM ix sub true n []]) HDA.out HE.out (fun _=>by simp) rfl (fun h=>absurd rfl h) ⟨As,ns,cs,ds,rfl,hO,hb⟩)
 clear hO hb
 go_wp2_with fail
 rw[HP.out,← HN.out]
 exact HF.out
theorem zih (S:CliS) (ix sub:Int) (b:List UInt8) (A:Option Addr) (n c:Nat) (w:World) (hS:CV_ w G p m S) (hw:0≤S.wk∧S.wk≤21) (hn:n=b.length) (hl:b.length≤100000) (hq:b.length=0) (hb:cBegB ix sub 0=true) (hs:∀ W',zcd (fun q=>q=p∨q=m∨G q) w W'→Sl W' A (b.map bv)) :
 Calls Try.prog 10 #[.pointer (some ⟨p,0,none⟩),.int .i64 ix,.int .i64 sub,.slice A n c,.int .i64 0] w (zf4 w G p m (cWriteS S ix sub b 0) (cWriteL S ix sub b 0)):= by
 obtain⟨R,hC,hE,hR2⟩:= hS.cm
 have HC:=zak hC
 have HE:=zak hE
 have HW:=zak hw
 have HN:=zak hn
 have HS:=zak hs
 have HBG:=zak hb
 have hnl:n≤100000:=by omega
 have hu32:=u32w n (by omega)
 have d1:decide ((0:Int) < (n:Int))=false:=decide_eq_false (by omega)
 have hn4: ¬ 0 < n:=by omega
 obtain⟨P,hP⟩:∃ P,P=zf4 w G p m (cWriteS S ix sub b 0) (cWriteL S ix sub b 0):= ⟨_,rfl⟩
 have HP:Hid (P=zf4 w G p m { cBegS S ix sub with b:=b,wk:=12 } (cSend S [downM ix sub true b.length []])):= zak (by
  rw[hP]
  unfold cWriteS cWriteL
  rw[if_neg (by rw[hb];decide),if_neg (by decide),if_neg (by rintro⟨_,h,_⟩;omega),if_neg (by rw[hb];decide),if_neg (by decide),if_neg (by rintro⟨_,h,_⟩;omega)])
 rw[← hP]
 clear hS hC hE hR2 hw hn hb hs hP hl hq
 go_enter Try.func10,Try.ntmps10
 go_wp2_with fail
 refine (zc3 S R ix sub 0 w HC.out HW.out HBG.out).mono ?_
 rintro e W1 ⟨rfl,A',c',h1⟩
 have H1:=zak h1
 have z1:=h1.lt
 have HS1:=zak (HS.out W1 h1.only)
 clear h1 HC
 go_wp2_with (at_builtin;refine zb8 _ rfl _ _ rfl W1.heap.size none 0 0 [] rfl (zb7.nil _ _) A n c b rfl HN.out HS1.out (by omega) (Nat.le_refl _) n (by omega) ?_;intro A4 c4 w4 h3 h4 h5 h6;have H2:=zak ((H1.out.step h6).row (h3.mono H1.out.size));have c17:=H2.out.blk.cell 17 rfl;have f17:=H2.out.blk.frozen 17;have z2:=H2.out.lt)
 have H3:Hid (CM w G p m 0 (cliL { cBegS S ix sub with b:=b } m { R with A:=A4,n:=n,c:=c4,A2:=A',n2:=0,c2:=c' }) [] [⟨A4,n,c4,b⟩] (w4.setCell ⟨p,17,none⟩ (.slice A4 n c4))):= zak (H2.out.set 17 _)
 clear H2 c17 f17 h3 h4 h5 h6 H1 HS1
 refine (zh8 { cBegS S ix sub with b:=b } { R with A:=A4,n:=n,c:=c4,A2:=A',n2:=0,c2:=c' } 2 _ H3.out).mono ?_
 rintro e w5 ⟨rfl,hb5⟩
 have H6:Hid (CM w G p m 0 (cliL { cBegS S ix sub with b:=b } m { R with A:=A4,n:=n,c:=c4,A2:=A',n2:=0,c2:=c' }) [⟨w5.heap.size,63,(msV (placeM 2 ix sub) none 0 0).toList⟩] [⟨A4,n,c4,b⟩] (w5.alloc (.cells (msV (placeM 2 ix sub) none 0 0) 63))):= zak ((H3.out.step hb5).new _ _ (by decide))
 have hw5:w.heap.size≤w5.heap.size:=(H3.out.step hb5).only.size
 clear hb5 H3
 unfold msV placeM at H6
 unfold msV placeM cBegS
 dsimp only at H6 ⊢
 go_wp2_with fail
 all_goals try (exfalso;omega)
 refine (zcw 12 _ H6.out rfl ⟨by omega,by omega⟩ ⟨by omega,by omega⟩).mono ?_
 rintro e W7 ⟨rfl,h7⟩
 obtain⟨g,hg⟩:∃ g,g=w5.heap.size:=⟨_,rfl⟩
 rw[← hg] at h7 hw5 ⊢
 have H7:Hid (CM w G p m 12 (cliL { cBegS S ix sub with b:=b,wk:=12 } m { R with A:=A4,n:=n,c:=c4,A2:=A',n2:=0,c2:=c' }) [⟨g,63,(msV (placeM 2 ix sub) none 0 0).toList⟩] [⟨A4,n,c4,b⟩] W7):= zak h7
 have z7:=h7.lt
 clear h7 H6 hg
 have q8:Blk W7 g 63 (msV (placeM 2 ix sub) none 0 0):= H7.out.k0
 have hgp:g≠p:=(H7.out.keep ⟨g,63,(msV (placeM 2 ix sub) none 0 0).toList⟩ (by simp)).1
 have hgw: ¬ g < w.heap.size:=by omega
 have zg:=q8.lt
 unfold msV placeM at q8
 dsimp only at q8
 obtain⟨q8_c0,q8_c1,q8_c2,q8_c3,q8_c4,q8_c5,q8_c6,q8_c7,q8_c8,q8_c9,q8_c10,q8_c11,q8_c12,q8_c13⟩:= zbs q8
 have q8_f:=q8.frozen
 have H9:=zak ((H7.out.put hgw (by simp) 6 (.bool true)).put hgw (by simp) 7 (.int .u32 (n:Nat)))
 have HDA:=zak (H9.out.alloc (.cells (msV (downM ix sub true n []) none 0 0) 63))
 have HBA:Hid (∀ (W:World) (N:Nat),W.heap.size=N→Blk (W.alloc (.cells (msV (downM ix sub true n []) none 0 0) 63)) N 63 (msV (downM ix sub true n []) none 0 0)):= zak (by rintro W _ rfl;exact zbu W _ _)
 unfold msV downM at HDA HBA
 dsimp only at HDA HBA
 go_wp2_with fail
 refine (zfj p (1536+S.nd) [downM ix sub true n []] _ 1 1 _ (HDA.out.blk.cell 1 rfl) rfl (zff (M:=downM ix sub true n []) (HBA.out _ W7.heap.size (by simp)) rfl (Sl.nil _ _)) (zib _ _ _ _ _ (by omega)) (by omega)).mono ?_
 rintro e w2 ⟨As,ns,cs,ds,rfl,hO,hb⟩
 have HF:=zak (zfp (S:={ cBegS S ix sub with b:=b,wk:=12 }) (R:={ R with A:=A4,n:=n,c:=c4,A2:=A',n2:=0,c2:=c' }) (L:= [downM ix sub true n []]) HDA.out HE.out (fun _=>by simp) rfl (fun h=>absurd rfl h) ⟨As,ns,cs,ds,rfl,hO,hb⟩)
 clear hO hb
 go_wp2_with fail
 rw[HP.out,← HN.out]
 exact HF.out
theorem zii (S:CliS) (ix sub:Int) (b:List UInt8) (A:Option Addr) (n c:Nat) (w:World) (hS:CV_ w G p m S) (hw:0≤S.wk∧S.wk≤21) (hn:n=b.length) (hl:b.length≤100000) (hq:4 < b.length) (hb:cBegB ix sub 0=true) (hs:∀ W',zcd (fun q=>q=p∨q=m∨G q) w W'→Sl W' A (b.map bv)) :
 Calls Try.prog 10 #[.pointer (some ⟨p,0,none⟩),.int .i64 ix,.int .i64 sub,.slice A n c,.int .i64 0] w (zf4 w G p m (cWriteS S ix sub b 0) (cWriteL S ix sub b 0)):= by
 obtain⟨R,hC,hE,hR2⟩:= hS.cm
 have HC:=zak hC
 have HE:=zak hE
 have HW:=zak hw
 have HN:=zak hn
 have HS:=zak hs
 have HBG:=zak hb
 have hnl:n≤100000:=by omega
 have hu32:=u32w n (by omega)
 have d1:decide ((0:Int) < (n:Int))=true:=decide_eq_true (by omega)
 have d2:decide ((n:Int)≤ 4)=false:=decide_eq_false (by omega)
 have hn4:4 < n:=by omega
 obtain⟨P,hP⟩:∃ P,P=zf4 w G p m (cWriteS S ix sub b 0) (cWriteL S ix sub b 0):= ⟨_,rfl⟩
 have HP:Hid (P=zf4 w G p m { cBegS S ix sub with b:=b,wk:=12 } (cSend S [downM ix sub true b.length []])):= zak (by
  rw[hP]
  unfold cWriteS cWriteL
  rw[if_neg (by rw[hb];decide),if_neg (by decide),if_neg (by rintro⟨_,_,h⟩;omega),if_neg (by rw[hb];decide),if_neg (by decide),if_neg (by rintro⟨_,_,h⟩;omega)])
 rw[← hP]
 clear hS hC hE hR2 hw hn hb hs hP hl hq
 go_enter Try.func10,Try.ntmps10
 go_wp2_with fail
 refine (zc3 S R ix sub 0 w HC.out HW.out HBG.out).mono ?_
 rintro e W1 ⟨rfl,A',c',h1⟩
 have H1:=zak h1
 have z1:=h1.lt
 have HS1:=zak (HS.out W1 h1.only)
 clear h1 HC
 go_wp2_with (at_builtin;refine zb8 _ rfl _ _ rfl W1.heap.size none 0 0 [] rfl (zb7.nil _ _) A n c b rfl HN.out HS1.out (by omega) (Nat.le_refl _) n (by omega) ?_;intro A4 c4 w4 h3 h4 h5 h6;have H2:=zak ((H1.out.step h6).row (h3.mono H1.out.size));have c17:=H2.out.blk.cell 17 rfl;have f17:=H2.out.blk.frozen 17;have z2:=H2.out.lt)
 have H3:Hid (CM w G p m 0 (cliL { cBegS S ix sub with b:=b } m { R with A:=A4,n:=n,c:=c4,A2:=A',n2:=0,c2:=c' }) [] [⟨A4,n,c4,b⟩] (w4.setCell ⟨p,17,none⟩ (.slice A4 n c4))):= zak (H2.out.set 17 _)
 clear H2 c17 f17 h3 h4 h5 h6 H1 HS1
 refine (zh8 { cBegS S ix sub with b:=b } { R with A:=A4,n:=n,c:=c4,A2:=A',n2:=0,c2:=c' } 2 _ H3.out).mono ?_
 rintro e w5 ⟨rfl,hb5⟩
 have H6:Hid (CM w G p m 0 (cliL { cBegS S ix sub with b:=b } m { R with A:=A4,n:=n,c:=c4,A2:=A',n2:=0,c2:=c' }) [⟨w5.heap.size,63,(msV (placeM 2 ix sub) none 0 0).toList⟩] [⟨A4,n,c4,b⟩] (w5.alloc (.cells (msV (placeM 2 ix sub) none 0 0) 63))):= zak ((H3.out.step hb5).new _ _ (by decide))
 have hw5:w.heap.size≤w5.heap.size:=(H3.out.step hb5).only.size
 clear hb5 H3
 unfold msV placeM at H6
 unfold msV placeM cBegS
 dsimp only at H6 ⊢
 go_wp2_with fail
 all_goals try (exfalso;omega)
 refine (zcw 12 _ H6.out rfl ⟨by omega,by omega⟩ ⟨by omega,by omega⟩).mono ?_
 rintro e W7 ⟨rfl,h7⟩
 obtain⟨g,hg⟩:∃ g,g=w5.heap.size:=⟨_,rfl⟩
 rw[← hg] at h7 hw5 ⊢
 have H7:Hid (CM w G p m 12 (cliL { cBegS S ix sub with b:=b,wk:=12 } m { R with A:=A4,n:=n,c:=c4,A2:=A',n2:=0,c2:=c' }) [⟨g,63,(msV (placeM 2 ix sub) none 0 0).toList⟩] [⟨A4,n,c4,b⟩] W7):= zak h7
 have z7:=h7.lt
 clear h7 H6 hg
 have q8:Blk W7 g 63 (msV (placeM 2 ix sub) none 0 0):= H7.out.k0
 have hgp:g≠p:=(H7.out.keep ⟨g,63,(msV (placeM 2 ix sub) none 0 0).toList⟩ (by simp)).1
 have hgw: ¬ g < w.heap.size:=by omega
 have zg:=q8.lt
 unfold msV placeM at q8
 dsimp only at q8
 obtain⟨q8_c0,q8_c1,q8_c2,q8_c3,q8_c4,q8_c5,q8_c6,q8_c7,q8_c8,q8_c9,q8_c10,q8_c11,q8_c12,q8_c13⟩:= zbs q8
 have q8_f:=q8.frozen
 have H9:=zak ((H7.out.put hgw (by simp) 6 (.bool true)).put hgw (by simp) 7 (.int .u32 (n:Nat)))
 have HDA:=zak (H9.out.alloc (.cells (msV (downM ix sub true n []) none 0 0) 63))
 have HBA:Hid (∀ (W:World) (N:Nat),W.heap.size=N→Blk (W.alloc (.cells (msV (downM ix sub true n []) none 0 0) 63)) N 63 (msV (downM ix sub true n []) none 0 0)):= zak (by rintro W _ rfl;exact zbu W _ _)
 unfold msV downM at HDA HBA
 dsimp only at HDA HBA
 go_wp2_with fail
 refine (zfj p (1536+S.nd) [downM ix sub true n []] _ 1 1 _ (HDA.out.blk.cell 1 rfl) rfl (zff (M:=downM ix sub true n []) (HBA.out _ W7.heap.size (by simp)) rfl (Sl.nil _ _)) (zib _ _ _ _ _ (by omega)) (by omega)).mono ?_
 rintro e w2 ⟨As,ns,cs,ds,rfl,hO,hb⟩
 have HF:=zak (zfp (S:={ cBegS S ix sub with b:=b,wk:=12 }) (R:={ R with A:=A4,n:=n,c:=c4,A2:=A',n2:=0,c2:=c' }) (L:= [downM ix sub true n []]) HDA.out HE.out (fun _=>by simp) rfl (fun h=>absurd rfl h) ⟨As,ns,cs,ds,rfl,hO,hb⟩)
 clear hO hb
 go_wp2_with fail
 rw[HP.out,← HN.out]
 exact HF.out
theorem zij (S:CliS) (ix sub:Int) (b:List UInt8) (A:Option Addr) (n c:Nat) (w:World) (hS:CV_ w G p m S) (hw:0≤S.wk∧S.wk≤21) (hn:n=b.length) (hl:b.length≤100000) (hb:cBegB ix sub 2=true) (hs:∀ W',zcd (fun q=>q=p∨q=m∨G q) w W'→Sl W' A (b.map bv)) :
 Calls Try.prog 10 #[.pointer (some ⟨p,0,none⟩),.int .i64 ix,.int .i64 sub,.slice A n c,.int .i64 2] w (zf4 w G p m (cWriteS S ix sub b 2) (cWriteL S ix sub b 2)):= by
 obtain⟨R,hC,hE,hR2⟩:= hS.cm
 have HC:=zak hC
 have HE:=zak hE
 have HW:=zak hw
 have HN:=zak hn
 have HS:=zak hs
 have HBG:=zak hb
 have hnl:n≤100000:=by omega
 have hu32:=u32w n (by omega)
 obtain⟨P,hP⟩:∃ P,P=zf4 w G p m (cWriteS S ix sub b 2) (cWriteL S ix sub b 2):= ⟨_,rfl⟩
 have HP:Hid (P=zf4 w G p m { cBegS S ix sub with b:=b,wk:=16 } (cSend S [bdnM ix sub b.length])):= zak (by
  rw[hP]
  unfold cWriteS cWriteL
  rw[if_neg (by rw[hb];decide),if_pos rfl,if_neg (by rw[hb];decide),if_pos rfl])
 rw[← hP]
 clear hS hC hE hR2 hw hn hb hs hP hl
 go_enter Try.func10,Try.ntmps10
 go_wp2_with fail
 refine (zc3 S R ix sub 2 w HC.out HW.out HBG.out).mono ?_
 rintro e W1 ⟨rfl,A',c',h1⟩
 have H1:=zak h1
 have z1:=h1.lt
 have HS1:=zak (HS.out W1 h1.only)
 clear h1 HC
 go_wp2_with (at_builtin;refine zb8 _ rfl _ _ rfl W1.heap.size none 0 0 [] rfl (zb7.nil _ _) A n c b rfl HN.out HS1.out (by omega) (Nat.le_refl _) n (by omega) ?_;intro A4 c4 w4 h3 h4 h5 h6;have H2:=zak ((H1.out.step h6).row (h3.mono H1.out.size));have c17:=H2.out.blk.cell 17 rfl;have f17:=H2.out.blk.frozen 17;have z2:=H2.out.lt)
 have H3:Hid (CM w G p m 0 (cliL { cBegS S ix sub with b:=b } m { R with A:=A4,n:=n,c:=c4,A2:=A',n2:=0,c2:=c' }) [] [⟨A4,n,c4,b⟩] (w4.setCell ⟨p,17,none⟩ (.slice A4 n c4))):= zak (H2.out.set 17 _)
 clear H2 c17 f17 h3 h4 h5 h6 H1 HS1
 refine (zh8 { cBegS S ix sub with b:=b } { R with A:=A4,n:=n,c:=c4,A2:=A',n2:=0,c2:=c' } 2 _ H3.out).mono ?_
 rintro e w5 ⟨rfl,hb5⟩
 have H6:Hid (CM w G p m 0 (cliL { cBegS S ix sub with b:=b } m { R with A:=A4,n:=n,c:=c4,A2:=A',n2:=0,c2:=c' }) [⟨w5.heap.size,63,(msV (placeM 2 ix sub) none 0 0).toList⟩] [⟨A4,n,c4,b⟩] (w5.alloc (.cells (msV (placeM 2 ix sub) none 0 0) 63))):= zak ((H3.out.step hb5).new _ _ (by decide))
 have hw5:w.heap.size≤w5.heap.size:=(H3.out.step hb5).only.size
 clear hb5 H3
 unfold msV placeM at H6
 unfold msV placeM cBegS
 dsimp only at H6 ⊢
 go_wp2_with fail
 all_goals try (exfalso;omega)
 refine (zcw 16 _ H6.out rfl ⟨by omega,by omega⟩ ⟨by omega,by omega⟩).mono ?_
 rintro e W7 ⟨rfl,h7⟩
 obtain⟨g,hg⟩:∃ g,g=w5.heap.size:=⟨_,rfl⟩
 rw[← hg] at h7 hw5 ⊢
 have H7:Hid (CM w G p m 16 (cliL { cBegS S ix sub with b:=b,wk:=16 } m { R with A:=A4,n:=n,c:=c4,A2:=A',n2:=0,c2:=c' }) [⟨g,63,(msV (placeM 2 ix sub) none 0 0).toList⟩] [⟨A4,n,c4,b⟩] W7):= zak h7
 have z7:=h7.lt
 clear h7 H6 hg
 go_wp2_with fail
 refine (zh8 { cBegS S ix sub with b:=b,wk:=16 } { R with A:=A4,n:=n,c:=c4,A2:=A',n2:=0,c2:=c' } 6 _ H7.out).mono ?_
 rintro e W9 ⟨rfl,hb9⟩
 have H8:=zak (H7.out.step hb9)
 have q8:Blk W9 g 63 (msV (placeM 2 ix sub) none 0 0):= H8.out.k0
 have hgp:g≠p:=(H8.out.keep ⟨g,63,(msV (placeM 2 ix sub) none 0 0).toList⟩ (by simp)).1
 have hgw: ¬ g < w.heap.size:=by omega
 have z9:=H8.out.lt
 have zg:=q8.lt
 have H9:Hid (CM w G p m 16 (cliL { cBegS S ix sub with b:=b,wk:=16 } m { R with A:=A4,n:=n,c:=c4,A2:=A',n2:=0,c2:=c' }) [⟨g,63,[.int .i64 6,.int .i64 ix,.int .i64 sub,.bool false,.bool false,.bool false,.bool false,.int .u32 (0:Nat),.int .u32 (0:Nat),.slice none 0 0,.int .i64 0,.int .i64 0,.int .i64 0,.int .u16 (0:Nat)]⟩] [⟨A4,n,c4,b⟩] (W9.setCells g 0 [.int .i64 6,.int .i64 ix,.int .i64 sub,.bool false,.bool false,.bool false,.bool false,.int .u32 (0:Nat),.int .u32 (0:Nat),.slice none 0 0,.int .i64 0,.int .i64 0,.int .i64 0,.int .u16 (0:Nat)])):= zak (H8.out.puts (x:=⟨g,63,(msV (placeM 2 ix sub) none 0 0).toList⟩) hgw (by simp) [.int .i64 6,.int .i64 ix,.int .i64 sub,.bool false,.bool false,.bool false,.bool false,.int .u32 (0:Nat),.int .u32 (0:Nat),.slice none 0 0,.int .i64 0,.int .i64 0,.int .i64 0,.int .u16 (0:Nat)] 0 (by simp[msV]))
 clear H7 hb9 z7 H8
 unfold msV placeM at q8
 dsimp only at q8
 obtain⟨q8_c0,q8_c1,q8_c2,q8_c3,q8_c4,q8_c5,q8_c6,q8_c7,q8_c8,q8_c9,q8_c10,q8_c11,q8_c12,q8_c13⟩:= zbs q8
 have q8_f:=q8.frozen
 simp only[World.setCells,Nat.reduceAdd] at H9
 unfold msV placeM cBegS
 dsimp only
 go_upto_region 12 with fail
 refine zcn (P:=CM w G p m 16 (cliL { cBegS S ix sub with b:=b,wk:=16 } m { R with A:=A4,n:=n,c:=c4,A2:=A',n2:=0,c2:=c' }) [⟨g,63,[.int .i64 6,.int .i64 ix,.int .i64 sub,.bool false,.bool false,.bool false,.bool false,.int .u32 (0:Nat),.int .u32 (0:Nat),.slice none 0 0,.int .i64 0,.int .i64 0,.int .i64 0,.int .u16 (0:Nat)]⟩] [⟨A4,n,c4,b⟩]) (by exact H9.out) (fun WA hA=>?_)
 clear H9 q8_c0 q8_c1 q8_c2 q8_c3 q8_c4 q8_c5 q8_c6 q8_c7 q8_c8 q8_c9 q8_c10 q8_c11 q8_c12 q8_c13 q8_f z9 zg q8
 have H9:=zak ((((hA.put hgw (by simp) 5 (.bool true)).put hgw (by simp) 6 (.bool true)).put hgw (by simp) 7 (.int .u32 (n:Nat))))
 have qa:Blk WA g 63 [.int .i64 6,.int .i64 ix,.int .i64 sub,.bool false,.bool false,.bool false,.bool false,.int .u32 (0:Nat),.int .u32 (0:Nat),.slice none 0 0,.int .i64 0,.int .i64 0,.int .i64 0,.int .u16 (0:Nat)].toArray:=hA.k0
 have zg:=qa.lt
 have za:=hA.lt
 obtain⟨qa_c0,qa_c1,qa_c2,qa_c3,qa_c4,qa_c5,qa_c6,qa_c7,qa_c8,qa_c9,qa_c10,qa_c11,qa_c12,qa_c13⟩:= zbs qa
 have qa_f:=qa.frozen
 clear hA
 go_upto_region 13 with fail
 refine zcn (P:=CM w G p m 16 (cliL { cBegS S ix sub with b:=b,wk:=16 } m { R with A:=A4,n:=n,c:=c4,A2:=A',n2:=0,c2:=c' }) [⟨g,63,(msV (bdnM ix sub n) none 0 0).toList⟩] [⟨A4,n,c4,b⟩]) (by exact H9.out) (fun WB hB=>?_)
 clear H9 qa_c0 qa_c1 qa_c2 qa_c3 qa_c4 qa_c5 qa_c6 qa_c7 qa_c8 qa_c9 qa_c10 qa_c11 qa_c12 qa_c13 qa_f za zg qa
 have H9:=zak hB
 have qb:Blk WB g 63 (msV (bdnM ix sub n) none 0 0):= hB.k0
 have zb:=qb.lt
 have zc:=hB.lt
 unfold msV bdnM at qb
 dsimp only at qb
 obtain⟨qb_c0,qb_c1,qb_c2,qb_c3,qb_c4,qb_c5,qb_c6,qb_c7,qb_c8,qb_c9,qb_c10,qb_c11,qb_c12,qb_c13⟩:= zbs qb
 have qb_f:=qb.frozen
 clear hB
 have HDA:=zak (H9.out.alloc (.cells (msV (bdnM ix sub n) none 0 0) 63))
 have HBA:Hid (∀ (W:World) (N:Nat),W.heap.size=N→Blk (W.alloc (.cells (msV (bdnM ix sub n) none 0 0) 63)) N 63 (msV (bdnM ix sub n) none 0 0)):= zak (by rintro W _ rfl;exact zbu W _ _)
 unfold msV bdnM at HDA HBA
 dsimp only at HDA HBA
 go_wp2_with fail
 refine (zfj p (1536+S.nd) [bdnM ix sub n] _ 1 1 _ (HDA.out.blk.cell 1 rfl) rfl (zff (M:=bdnM ix sub n) (HBA.out _ WB.heap.size (by simp)) rfl (Sl.nil _ _)) (zid _ _ _ (by omega)) (by omega)).mono ?_
 rintro e w2 ⟨As,ns,cs,ds,rfl,hO,hb⟩
 have HF:=zak (zfp (S:={ cBegS S ix sub with b:=b,wk:=16 }) (R:={ R with A:=A4,n:=n,c:=c4,A2:=A',n2:=0,c2:=c' }) (L:= [bdnM ix sub n]) HDA.out HE.out (fun _=>by simp) rfl (fun h=>absurd rfl h) ⟨As,ns,cs,ds,rfl,hO,hb⟩)
 clear hO hb
 go_wp2_with fail
 rw[HP.out,← HN.out]
 exact HF.out
theorem zik (S:CliS) (ix sub:Int) (w:World) (hS:CV_ w G p m S) (hw:0≤S.wk∧S.wk≤21) (hb:cBegB ix sub 2=true) :
 Calls Try.prog 14 #[.pointer (some ⟨p,0,none⟩),.int .i64 ix,.int .i64 sub,.int .i64 2] w (zf4 w G p m (cReadS S ix sub 2) (cReadL S ix sub 2)):= by
 obtain⟨R,hC,hE,hR2⟩:= hS.cm
 have HC:=zak hC
 have HE:=zak hE
 have HW:=zak hw
 have HBG:=zak hb
 obtain⟨P,hP⟩:∃ P,P=zf4 w G p m (cReadS S ix sub 2) (cReadL S ix sub 2):= ⟨_,rfl⟩
 have HP:Hid (P=zf4 w G p m { cBegS S ix sub with wk:=19 } (cSend S [buM ix sub])):= zak (by
  rw[hP]
  unfold cReadS cReadL
  rw[if_neg (by rw[hb];decide),if_pos rfl,if_neg (by rw[hb];decide),if_pos rfl])
 rw[← hP]
 clear hS hC hE hR2 hw hb hP
 go_enter Try.func14,Try.ntmps14
 go_wp2_with fail
 refine (zc3 S R ix sub 2 w HC.out HW.out HBG.out).mono ?_
 rintro e W1 ⟨rfl,A',c',h1⟩
 have H1:=zak (h1.row (zb7.nil _ _))
 have z1:=h1.lt
 clear h1 HC
 go_wp2_with fail
 refine (zcw 19 _ H1.out rfl ⟨by omega,by omega⟩ ⟨by omega,by omega⟩).mono ?_
 rintro e W7 ⟨rfl,h7⟩
 have H7:Hid (CM w G p m 19 (cliL { cBegS S ix sub with wk:=19 } m { R with A:=none,n:=0,c:=0,A2:=A',n2:=0,c2:=c' }) [] [⟨none,0,0,[]⟩] W7):= zak h7
 have z7:=h7.lt
 clear h7 H1
 go_wp2_with fail
 refine (zh8 { cBegS S ix sub with wk:=19 } { R with A:=none,n:=0,c:=0,A2:=A',n2:=0,c2:=c' } 8 _ H7.out).mono ?_
 rintro e W9 ⟨rfl,hb9⟩
 have H8:=zak (H7.out.step hb9)
 have z9:=H8.out.lt
 have hgw: ¬ W9.heap.size < w.heap.size:=by have:=H8.out.size;omega
 clear H7 hb9 z7
 have H9:=zak (H8.out.new 63 (msV (buM ix sub) none 0 0).toList (by decide))
 have HDA:=zak (H9.out.alloc (.cells (msV (buM ix sub) none 0 0) 63))
 have HBA:Hid (∀ (W:World) (N:Nat),W.heap.size=N→Blk (W.alloc (.cells (msV (buM ix sub) none 0 0) 63)) N 63 (msV (buM ix sub) none 0 0)):= zak (by rintro W _ rfl;exact zbu W _ _)
 unfold msV buM at HDA HBA
 unfold msV placeM cBegS
 dsimp only at HDA HBA ⊢
 go_wp2_with fail
 refine (zfj p (1536+S.nd) [buM ix sub] _ 1 1 _ (HDA.out.blk.cell 1 rfl) rfl (zff (M:=buM ix sub) (HBA.out _ (W9.heap.size+1) (by simp)) rfl (Sl.nil _ _)) (by intro M hM;simp at hM;subst hM;exact⟨Nat.zero_le _,Nat.zero_le _,Nat.zero_le _⟩) (by omega)).mono ?_
 rintro e w2 ⟨As,ns,cs,ds,rfl,hO,hb⟩
 have HF:=zak (zfp (S:={ cBegS S ix sub with wk:=19 }) (R:={ R with A:=none,n:=0,c:=0,A2:=A',n2:=0,c2:=c' }) (L:= [buM ix sub]) HDA.out HE.out (fun _=>List.mem_cons_self) rfl (fun h=>absurd rfl h) ⟨As,ns,cs,ds,rfl,hO,hb⟩)
 clear hO hb
 go_wp2_with fail
 rw[HP.out]
 exact HF.out
theorem zil (S:CliS) (ix sub mode:Int) (w:World) (hS:CV_ w G p m S) (hw:0≤S.wk∧S.wk≤21) (hm:mode≠2) (hb:cBegB ix sub mode=true) :
 Calls Try.prog 14 #[.pointer (some ⟨p,0,none⟩),.int .i64 ix,.int .i64 sub,.int .i64 mode] w (zf4 w G p m (cReadS S ix sub mode) (cReadL S ix sub mode)):= by
 obtain⟨R,hC,hE,hR2⟩:= hS.cm
 have HC:=zak hC
 have HE:=zak hE
 have HW:=zak hw
 have HBG:=zak hb
 obtain⟨P,hP⟩:∃ P,P=zf4 w G p m (cReadS S ix sub mode) (cReadL S ix sub mode):= ⟨_,rfl⟩
 have HP:Hid (P=zf4 w G p m { cBegS S ix sub with wk:=14 } (cSend S [uplM ix sub])):= zak (by
  rw[hP]
  unfold cReadS cReadL
  rw[if_neg (by rw[hb];decide),if_neg hm,if_neg (by rw[hb];decide),if_neg hm])
 rw[← hP]
 clear hS hC hE hR2 hw hb hP
 go_enter Try.func14,Try.ntmps14
 go_wp2_with fail
 refine (zc3 S R ix sub mode w HC.out HW.out HBG.out).mono ?_
 rintro e W1 ⟨rfl,A',c',h1⟩
 have H1:=zak (h1.row (zb7.nil _ _))
 have z1:=h1.lt
 clear h1 HC
 go_wp2_with fail
 refine (zcw 14 _ H1.out rfl ⟨by omega,by omega⟩ ⟨by omega,by omega⟩).mono ?_
 rintro e W7 ⟨rfl,h7⟩
 have H7:Hid (CM w G p m 14 (cliL { cBegS S ix sub with wk:=14 } m { R with A:=none,n:=0,c:=0,A2:=A',n2:=0,c2:=c' }) [] [⟨none,0,0,[]⟩] W7):= zak h7
 have z7:=h7.lt
 clear h7 H1
 go_wp2_with fail
 refine (zh8 { cBegS S ix sub with wk:=14 } { R with A:=none,n:=0,c:=0,A2:=A',n2:=0,c2:=c' } 4 _ H7.out).mono ?_
 rintro e W9 ⟨rfl,hb9⟩
 have H8:=zak (H7.out.step hb9)
 have z9:=H8.out.lt
 have hgw: ¬ W9.heap.size < w.heap.size:=by have:=H8.out.size;omega
 clear H7 hb9 z7
 have HDA:=zak (H8.out.alloc (.cells (msV (uplM ix sub) none 0 0) 63))
 have HBA:Hid (∀ (W:World) (N:Nat),W.heap.size=N→Blk (W.alloc (.cells (msV (uplM ix sub) none 0 0) 63)) N 63 (msV (uplM ix sub) none 0 0)):= zak (by rintro W _ rfl;exact zbu W _ _)
 unfold msV uplM at HDA HBA
 unfold msV placeM cBegS
 dsimp only at HDA HBA ⊢
 go_wp2_with fail
 refine (zfj p (1536+S.nd) [uplM ix sub] _ 1 1 _ (HDA.out.blk.cell 1 rfl) rfl (zff (M:=uplM ix sub) (HBA.out _ (W9.heap.size) (by simp)) rfl (Sl.nil _ _)) (by intro M hM;simp at hM;subst hM;exact⟨Nat.zero_le _,Nat.zero_le _,Nat.zero_le _⟩) (by omega)).mono ?_
 rintro e w2 ⟨As,ns,cs,ds,rfl,hO,hb⟩
 have HF:=zak (zfp (S:={ cBegS S ix sub with wk:=14 }) (R:={ R with A:=none,n:=0,c:=0,A2:=A',n2:=0,c2:=c' }) (L:= [uplM ix sub]) HDA.out HE.out (fun _=>List.mem_cons_self) rfl (fun h=>absurd rfl h) ⟨As,ns,cs,ds,rfl,hO,hb⟩)
 clear hO hb
 go_wp2_with fail
 rw[HP.out]
 exact HF.out
end
end
end Go.Proofs.Ythdbckbpldlkeaa
