/- None -/
import Derived.Test.YthdbckbpldlkeaaQ16
namespace Go.Proofs.Ythdbckbpldlkeaa
set_option linter.unusedVariables false
set_option linter.unusedSimpArgs false
set_option linter.unnecessarySimpa false
section
open Go.RowKit
set_option maxRecDepth 100000
theorem zh6:(Try.prog.info? 63).map (·.size)=some 14:=by kernel_rfl
theorem zh7 {fn:Func} {p:Tmp} (h:fn.results= #[.cell p 63]) {a:Act} {w:World} {g:Nat} {M:Ms} {A:Option Addr} {n c:Nat} {R:Ending→World→Prop} (hd:a.defers= []) (hp:a.tmps.getD p undef= .pointer (some ⟨g,0,none⟩))
 (hB:Blk w g 63 (msV M A n c)) (hR:R (.returned (.agg (msV M A n c))) w):bodyPost Try.prog fn R .ret a w:=
 bodyPost_ret (results_cell_row h _ _ _ _ _ _ _ hp hB Try.underlying63 rfl zh6) hd hR
end
section
open Go.RowKit Go.Maps
set_option maxRecDepth 100000
set_option maxHeartbeats 8000000
section
variable {w0:World} {G:Nat→Prop} {p m:Nat} {ks:List KB} {rs:List RB}
def placeM (k ix sub:Int):Ms:=⟨k,ix,sub,false,false,false,false,0,0,[],0,0,0,0⟩
theorem zh8 (S:CliS) (R:CR) (k:Int) (W:World) (h:CM w0 G p m S.wk (cliL S m R) ks rs W) :
 Calls Try.prog 26 #[.pointer (some ⟨p,0,none⟩),.int .i64 k] W fun e W'=>e= .returned (.agg (msV (placeM k S.ix S.sub) none 0 0))∧ Below W.heap.size W W':=by
 have H1:=zak (h.alloc (.cells (msV msZ none 0 0) 63))
 have hbw:=zbp (Below.refl W.heap.size W) (.cells (msV msZ none 0 0) 63)
 have HB:=zak hbw
 clear h hbw
 unfold msV msZ at H1 HB
 go_enter Try.func26,Try.ntmps26
 go_upto_region 1 with fail
 refine zcn (P:=fun W1=>CM w0 G p m S.wk (cliL S m R) ks rs W1∧Below W.heap.size W W1∧W1.heap.size=W.heap.size+1∧Blk W1 W.heap.size 63 (msV msZ none 0 0)) ⟨H1.out,HB.out,by simp,zbu W _ _⟩ (fun W1 h1=>?_)
 clear H1 HB
 obtain⟨h1,hb,hz,hq⟩:= h1
 have H1:=zak h1
 have HB:=zak hb
 have z1:=h1.lt
 obtain⟨a3,a4,a5,a6,a7,a8,a9,a10,a11,a12,a13,a14,a15,a16⟩:= zcs h1.blk
 have zq:=hq.lt
 have hsq:Blk (W1.setCells W.heap.size 0 (msV (placeM k S.ix S.sub) none 0 0).toList) W.heap.size 63 (msV (placeM k S.ix S.sub) none 0 0):= zcl (msV (placeM k S.ix S.sub) none 0 0).toList 0 (l:=(msV msZ none 0 0).toList) hq (by simp[msV])
 have hso:Below W.heap.size W (W1.setCells W.heap.size 0 (msV (placeM k S.ix S.sub) none 0 0).toList):= zce (zcm (F:=fun q=>q=W.heap.size) rfl _ _ (zcd.refl _ _)) hb (fun i h=>by omega)
 have HSQ:=zak (And.intro (hsq.alloc (.cells (msV (placeM k S.ix S.sub) none 0 0) 63)) (zbp hso (.cells (msV (placeM k S.ix S.sub) none 0 0) 63)))
 clear hsq hso
 have HZ:=zak hz
 unfold msV msZ at hq
 obtain⟨hq_c0,hq_c1,hq_c2,hq_c3,hq_c4,hq_c5,hq_c6,hq_c7,hq_c8,hq_c9,hq_c10,hq_c11,hq_c12,hq_c13⟩:= zbs hq
 have hq_f:=hq.frozen
 have hne:W.heap.size < W1.heap.size:=zq
 clear h1 hb hz
 go_wp2_with fail
 exact zh7 (g:=W.heap.size) (M:=placeM k S.ix S.sub) (A:=none) (n:=0) (c:=0) rfl rfl rfl HSQ.out.1 ⟨rfl,HSQ.out.2⟩
end
def crZ:CR:=⟨msZ,none,0,0,none,0,0,none,0,0⟩
theorem zh9 (node:Int) (w:World) (h:1≤node∧node≤127) :
 Calls Try.prog 7 #[.int .i64 node] w fun e w'=> ∃ p m,e= .returned (.tuple #[.pointer (some ⟨p,0,none⟩),.int .i64 0])∧ CV_ w' (fun _=>False) p m (cliZ node)∧ Below w.heap.size w w'∧w.heap.size≤p∧w.heap.size≤m:=by
 have hmm:= @run_makeMap Try.prog
 have HN:=zak h
 clear h
 go_enter Try.func7,Try.ntmps7
 go_wp2_with fail
 refine (zfm 7 (.inl rfl) node HN.out _).mono ?_
 rintro e w1 ⟨rfl,hb1⟩
 go_wp2_with fail
 refine (zfm 8 (.inr rfl) node HN.out _).mono ?_
 rintro e w2 ⟨rfl,hb2⟩
 have HB:=zak (zbo hb2 hb1)
 clear hb1 hb2
 have hq:=Blk.new (w2.alloc (.map #[] 0)) 65 (cliL (cliZ node) w2.heap.size crZ).toArray
 rw[show (w2.alloc (.map #[] 0)).heap.size=w2.heap.size+1 by simp] at hq
 have hm:WM ((w2.alloc (.map #[] 0)).alloc (.cells (cliL (cliZ node) w2.heap.size crZ).toArray 65)) w2.heap.size 0:=(zcq w2).keep ((zbp (Below.refl _ (w2.alloc (.map #[] 0))) (.cells (cliL (cliZ node) w2.heap.size crZ).toArray 65)).block _ (by simp))
 have hz2:=HB.out.size
 have HF:Hid (CV_ ((w2.alloc (.map #[] 0)).alloc (.cells (cliL (cliZ node) w2.heap.size crZ).toArray 65)) (fun _=>False) (w2.heap.size+1) w2.heap.size (cliZ node)∧ Below w.heap.size w ((w2.alloc (.map #[] 0)).alloc (.cells (cliL (cliZ node) w2.heap.size crZ).toArray 65))):= zak ⟨⟨crZ,hq,hm,⟨rfl,rfl,rfl,Nat.zero_le _⟩,fun h=>absurd rfl h,rfl,fun h=>absurd rfl h⟩,zbp (zbp HB.out _) _⟩
 clear hq hm
 go_wp2_with fail
 go_ret2
 exact⟨_,_,rfl,HF.out.1,HF.out.2,by omega,hz2⟩
theorem zia (node:Int) (w:World) (h: ¬ (1≤node∧node≤127)) :
 Calls Try.prog 7 #[.int .i64 node] w fun e w'=>e= .returned (.tuple #[.pointer none,.int .i64 1])∧ Below w.heap.size w w':=by
 have HN:=zak h
 clear h
 go_enter Try.func7,Try.ntmps7
 go_wp2_with fail
 refine (zfn 7 (.inl rfl) node HN.out _).mono ?_
 rintro e w1 ⟨rfl,hb1⟩
 go_wp2_with fail
 refine (zfn 8 (.inr rfl) node HN.out _).mono ?_
 rintro e w2 ⟨rfl,hb2⟩
 have HB:=zak (zbo hb2 hb1)
 clear hb1 hb2
 go_wp2_with fail
 go_ret2
 exact⟨rfl,HB.out⟩
end
section
open Go.RowKit Go.Maps
set_option maxRecDepth 100000
set_option maxHeartbeats 8000000
section
variable {G:Nat→Prop} {p m:Nat}
theorem zib (ix sub:Int) (sz:Bool) (size:Nat) (d:List UInt8) (h:size≤4294967295):∀ M ∈ [downM ix sub sz size d],MsOk M:=by
 intro M hM
 simp at hM
 subst hM
 exact⟨h,Nat.zero_le _,Nat.zero_le _⟩
theorem zic (S:CliS) (ix sub:Int) (b:List UInt8) (A:Option Addr) (n c:Nat) (w:World) (hS:CV_ w G p m S) (hw:0≤S.wk∧S.wk≤21) (hn:n=b.length) (hq:1≤b.length∧b.length≤4) (hb:cBegB ix sub 0=true) (hs:∀ W',zcd (fun q=>q=p∨q=m∨G q) w W'→Sl W' A (b.map bv)) :
 Calls Try.prog 10 #[.pointer (some ⟨p,0,none⟩),.int .i64 ix,.int .i64 sub,.slice A n c,.int .i64 0] w (zf4 w G p m (cWriteS S ix sub b 0) (cWriteL S ix sub b 0)):= by
 obtain⟨R,hC,hE,hR2⟩:= hS.cm
 have HC:=zak hC
 have HE:=zak hE
 have HW:=zak hw
 have HN:=zak hn
 have HS:=zak hs
 have HBG:=zak hb
 have hn0:0 < n:=by omega
 have hn1:n≤4:=by omega
 have d1:decide ((0:Int) < (n:Int))=true:=decide_eq_true (by omega)
 have d2:decide ((n:Int)≤ 4)=true:=decide_eq_true (by omega)
 obtain⟨P,hP⟩:∃ P,P=zf4 w G p m (cWriteS S ix sub b 0) (cWriteL S ix sub b 0):= ⟨_,rfl⟩
 have HP:Hid (P=zf4 w G p m { cBegS S ix sub with b:=b,wk:=12,at_:=(n:Int)+1 } (cSend S [downM ix sub true 0 b])):= zak (by
  rw[hP]
  unfold cWriteS cWriteL
  rw[if_neg (by rw[hb];decide),if_neg (by decide),if_pos ⟨rfl,by omega,hq.2⟩,if_neg (by rw[hb];decide),if_neg (by decide),if_pos ⟨rfl,by omega,hq.2⟩,hn])
 rw[← hP]
 clear hS hC hE hR2 hw hn hq hb hs hP
 go_enter Try.func10,Try.ntmps10
 go_wp2_with fail
 refine (zc3 S R ix sub 0 w HC.out HW.out HBG.out).mono ?_
 rintro e W1 ⟨rfl,A',c',h1⟩
 have H1:=zak h1
 have z1:=h1.lt
 have HS1:=zak (HS.out W1 h1.only)
 clear h1 HC
 go_wp2_with (at_builtin;refine zb8 _ rfl _ _ rfl W1.heap.size none 0 0 [] rfl (zb7.nil _ _) A n c b rfl HN.out HS1.out (by omega) (Nat.le_refl _) n (by omega) ?_;intro A4 c4 w4 h3 h4 h5 h6;have H2:=zak ((H1.out.step h6).row (h3.mono H1.out.size));have c17:=H2.out.blk.cell 17 rfl;have f17:=H2.out.blk.frozen 17;have z2:=H2.out.lt)
 have H3:Hid (CM w G p m 0 (cliL { cBegS S ix sub with b:=b } m { R with A:=A4,n:=n,c:=c4,A2:=A',n2:=0,c2:=c' }) [] [⟨A4,n,c4,b⟩] (w4.setCell ⟨p,17,none⟩ (.slice A4 n c4))):= zak (H2.out.set 17 _)
 clear H2 c17 f17 h3 h4 h5 h6 H1 HS1
 refine (zh8 { cBegS S ix sub with b:=b } { R with A:=A4,n:=n,c:=c4,A2:=A',n2:=0,c2:=c' } 2 _ H3.out).mono ?_
 rintro e w5 ⟨rfl,hb5⟩
 have H6:Hid (CM w G p m 0 (cliL { cBegS S ix sub with b:=b } m { R with A:=A4,n:=n,c:=c4,A2:=A',n2:=0,c2:=c' }) [⟨w5.heap.size,63,(msV (placeM 2 ix sub) none 0 0).toList⟩] [⟨A4,n,c4,b⟩] (w5.alloc (.cells (msV (placeM 2 ix sub) none 0 0) 63))):= zak ((H3.out.step hb5).new _ _ (by decide))
 have hw5:w.heap.size≤w5.heap.size:=(H3.out.step hb5).only.size
 clear hb5 H3
 unfold msV placeM at H6
 unfold msV placeM cBegS
 dsimp only at H6 ⊢
 go_wp2_with fail
 refine (zcw 12 _ H6.out rfl ⟨by omega,by omega⟩ ⟨by omega,by omega⟩).mono ?_
 rintro e W7 ⟨rfl,h7⟩
 obtain⟨g,hg⟩:∃ g,g=w5.heap.size:=⟨_,rfl⟩
 rw[← hg] at h7 hw5 ⊢
 have H7:Hid (CM w G p m 12 (cliL { cBegS S ix sub with b:=b,wk:=12 } m { R with A:=A4,n:=n,c:=c4,A2:=A',n2:=0,c2:=c' }) [⟨g,63,(msV (placeM 2 ix sub) none 0 0).toList⟩] [⟨A4,n,c4,b⟩] W7):= zak h7
 have z7:=h7.lt
 have c18:=H7.out.blk.cell 18 rfl
 have f18:=H7.out.blk.frozen 18
 clear h7 H6 hg
 go_upto_region 17 with fail
 refine zcn (P:=CM w G p m 12 (cliL { cBegS S ix sub with b:=b,wk:=12,at_:=(n:Int)+1 } m { R with A:=A4,n:=n,c:=c4,A2:=A',n2:=0,c2:=c' }) [⟨g,63,(msV (placeM 2 ix sub) none 0 0).toList⟩] [⟨A4,n,c4,b⟩]) (by exact H7.out.set 18 _) (fun W8 h8=>?_)
 clear H7 z7 c18 f18
 have H8:=zak h8
 have z8:=h8.lt
 have q8:Blk W8 g 63 (msV (placeM 2 ix sub) none 0 0):= h8.k0
 have hgp:g≠p:=(h8.keep ⟨g,63,(msV (placeM 2 ix sub) none 0 0).toList⟩ (by simp)).1
 have zg:=q8.lt
 have c17:W8.cell? ⟨p,17,none⟩=some (.slice A4 n c4):= h8.blk.cell 17 rfl
 have q6:W8.cell? ⟨g,6,none⟩=some (.bool false):= q8.cell 6 rfl
 have q9:W8.cell? ⟨g,9,none⟩=some (.slice none 0 0):= q8.cell 9 rfl
 have fq:=q8.frozen
 have hgw: ¬ g < w.heap.size:=by omega
 have H9a:=zak ((h8.put (x:=⟨g,63,(msV (placeM 2 ix sub) none 0 0).toList⟩) hgw (by simp) 6 (.bool true)).drew)
 have H9:=zak (((h8.put (x:=⟨g,63,(msV (placeM 2 ix sub) none 0 0).toList⟩) hgw (by simp) 6 (.bool true)).put (x:=⟨g,63,(msV (placeM 2 ix sub) none 0 0).toList.set 6 (.bool true)⟩) hgw (by simp) 9 (.slice A4 n c4)).drew)
 clear h8 q8
 refine wp_region_held_drew (S:=(fun w'=>w'.cell? ⟨p,17,none⟩=some (.slice A4 n c4)∧ True)) (by kernel_rfl) ?hS1 (fun hHeld=>?rest1)
 case hS1=>((try dsimp only);(exact⟨c17,trivial⟩))
 case' rest1=>skip
 iterate 5 (refine tkN ?_;try simp only[PqL,Act.put])
 refine wpAnyH_ready (rs:= [5]) (by kernel_rfl) (by simp) ?_
 refine AllReadyH.cons (o:=_) rfl (fun K hK=>?_) .nil
 go_simp
 refine hK.out _ _ ?hS9 (fun hHeld=>?rest9)
 case hS9=>((try dsimp only);(exact⟨H9a.out.blk.cell 17 rfl,trivial⟩))
 case' rest9=>(clear hK K;try simp only[PqL,Act.put])
 refine tkH 6 ?_
 try simp only[PqL,Act.put]
 refine wpAnyH_ready (rs:= [7]) (by kernel_rfl) (by simp) ?_
 refine AllReadyH.cons (o:=_) rfl (fun K hK=>?_) .nil
 go_simp
 refine hK.out _ _ ?hS13 (fun hHeld=>?rest13)
 case hS13=>((try dsimp only);(exact⟨H9.out.blk.cell 17 rfl,trivial⟩))
 case' rest13=>(clear hK K;try simp only[PqL,Act.put])
 refine wpAnyH_done (by kernel_rfl) ?_ _
 have hEnd:=hHeld.2
 repeat (clear hHeld)
 clear hEnd H9a
 go_upto_region 18 with fail
 refine zcn (P:=CM w G p m 12 (cliL { cBegS S ix sub with b:=b,wk:=12,at_:=(n:Int)+1 } m { R with A:=A4,n:=n,c:=c4,A2:=A',n2:=0,c2:=c' }) [⟨g,63,(msV (downM ix sub true 0 b) A4 n c4).toList⟩] [⟨A4,n,c4,b⟩]) (by exact H9.out) (fun WA hA=>?_)
 clear H9 H8 z8 zg c17 q6 q9 fq
 have qa:Blk WA g 63 (msV (downM ix sub true 0 b) A4 n c4):= hA.k0
 have za:=hA.lt
 have zga:=qa.lt
 have HDA:=zak (hA.alloc (.cells (msV (downM ix sub true 0 b) A4 n c4) 63))
 have HBA:=zak (zbu WA 63 (msV (downM ix sub true 0 b) A4 n c4))
 have HSA:=zak (HDA.out.r0.sl)
 unfold msV downM at qa HDA HBA HSA
 dsimp only at qa HDA HBA HSA
 obtain⟨qa_c0,qa_c1,qa_c2,qa_c3,qa_c4,qa_c5,qa_c6,qa_c7,qa_c8,qa_c9,qa_c10,qa_c11,qa_c12,qa_c13⟩:= zbs qa
 have qa_f:=qa.frozen
 clear hA
 go_wp2_with fail
 refine (zfj p (1536+S.nd) [downM ix sub true 0 b] _ 1 1 _ (HDA.out.blk.cell 1 rfl) rfl (zff (M:=downM ix sub true 0 b) HBA.out HN.out HSA.out) (zib _ _ _ _ _ (by omega)) (by omega)).mono ?_
 rintro e w2 ⟨As,ns,cs,ds,rfl,hO,hb⟩
 have HF:=zak (zfp (S:={ cBegS S ix sub with b:=b,wk:=12,at_:=(n:Int)+1 }) (R:={ R with A:=A4,n:=n,c:=c4,A2:=A',n2:=0,c2:=c' }) (L:= [downM ix sub true 0 b]) HDA.out HE.out (fun _=>by simp) rfl (fun h=>absurd rfl h) ⟨As,ns,cs,ds,rfl,hO,hb⟩)
 clear hO hb
 go_wp2_with fail
 rw[HP.out]
 exact HF.out
end
end
end Go.Proofs.Ythdbckbpldlkeaa
