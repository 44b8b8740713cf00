/- None -/
import Derived.Test.YthdbckbpldlkeaaGreatS47
import Derived.Test.YthdbckbpldlkeaaGreatS45
import Derived.Test.YthdbckbpldlkeaaGreatS46
namespace Go.Proofs.YthdbckbpldlkeaaGreat
set_option linter.unusedVariables false
set_option linter.unusedSimpArgs false
set_option linter.unnecessarySimpa false
section
open Go.RowKit
set_option maxRecDepth 100000
set_option maxHeartbeats 4000000
theorem zq2 (s:ByteArray) (hs:4 < s.size) (h0:(s.data.getD 0 0).toNat=54) (h1:(s.data.getD 1 0).toNat=48) (h2:(s.data.getD 2 0).toNat=53) (h3:(s.data.getD 3 0).toNat=35) (w:World) :
 Calls Tryz.prog 129 #[.string s] w fun e w'=>e= .returned (.tuple #[.int .i64 1541,.string (s.extract 4 s.size),.bool true])∧ Below w.heap.size w w':=by
 have n0:=fun ty=>run_next_ascii (P:=Tryz.prog) w s 0 ty (by omega) (by rw[gb s 0 (by omega),h0];omega)
 have n1:=fun ty=>run_next_ascii (P:=Tryz.prog) w s 1 ty (by omega) (by rw[gb s 1 (by omega),h1];omega)
 have n2:=fun ty=>run_next_ascii (P:=Tryz.prog) w s 2 ty (by omega) (by rw[gb s 2 (by omega),h2];omega)
 have n3:=fun ty=>run_next_ascii (P:=Tryz.prog) w s 3 ty (by omega) (by rw[gb s 3 (by omega),h3];omega)
 rw[gb s 0 (by omega),h0] at n0
 rw[gb s 1 (by omega),h1] at n1
 rw[gb s 2 (by omega),h2] at n2
 rw[gb s 3 (by omega),h3] at n3
 have hb:=zc1 (Below.refl w.heap.size w) (.stringIter s 4)
 have hs4:4≤s.size:=by omega
 clear h0 h1 h2 h3
 go_enter Tryz.func129,Tryz.ntmps129
 go_wp2_with fail
 refine wp_loop_rounds 5 ?_
 rw[rounds_succ]
 go_wp2_with fail
 refine (zqm 54 (by omega) _).mono ?_
 rintro e w1 ⟨rfl,rfl⟩
 go_wp2_with fail
 rw[rounds_succ]
 go_wp2_with fail
 refine (zqm 48 (by omega) _).mono ?_
 rintro e w1 ⟨rfl,rfl⟩
 go_wp2_with fail
 rw[rounds_succ]
 go_wp2_with fail
 refine (zqm 53 (by omega) _).mono ?_
 rintro e w1 ⟨rfl,rfl⟩
 go_wp2_with fail
 rw[rounds_succ]
 go_wp2_with fail
 go_quiet (fail)
 go_wp2_with fail
 rw[show bits BinOp.or IntKind.i64 (wrap64 (bits BinOp.or IntKind.i64 (wrap64 (bits BinOp.or IntKind.i64 0 6 * 16)) 0 * 16)) 5=1541 by decide +kernel]
 go_ret3
 exact⟨rfl,zdl hb _⟩
def frm_p605as:ByteArray:=⟨#[54,48,53,35,52,48,49,55,49,48,48,48,48,48,48,48,48,48,48,48]⟩
theorem zq3 (w:World):Calls Tryz.prog 67 #[.string ⟨#[54,48,53,35,52,48,49,55,49,48,48,48,48,48,48,48,48,48,48,48]⟩] w (ParseR 1541 [64,23,16,0,0,0,0,0] w):=
 zq1 1541 (by omega) frm_p605as 8 ⟨#[52,48,49,55,49,48,48,48,48,48,48,48,48,48,48,48]⟩ _ (fun w=>(zq2 frm_p605as (by decide) (by decide) (by decide) (by decide) (by decide) w).mono (fun e w' h=>⟨by rw[h.1];rfl,h.2⟩)) (by decide) (by omega) (by decide +kernel) (by decide +kernel) (by decide +kernel) w
def frm_p605bs:ByteArray:=⟨#[54,48,53,35,102,102,48,48,48,48,48,48,48,48,48,48,48,48,48,48]⟩
theorem zq4 (w:World):Calls Tryz.prog 67 #[.string ⟨#[54,48,53,35,102,102,48,48,48,48,48,48,48,48,48,48,48,48,48,48]⟩] w (ParseR 1541 [255,0,0,0,0,0,0,0] w):=
 zq1 1541 (by omega) frm_p605bs 8 ⟨#[102,102,48,48,48,48,48,48,48,48,48,48,48,48,48,48]⟩ _ (fun w=>(zq2 frm_p605bs (by decide) (by decide) (by decide) (by decide) (by decide) w).mono (fun e w' h=>⟨by rw[h.1];rfl,h.2⟩)) (by decide) (by omega) (by decide +kernel) (by decide +kernel) (by decide +kernel) w
theorem zq7 (A:Option Addr) (n c:Nat) (data:List UInt8) (w:World) (hn:n=data.length) (h8:n≤8) (hs:Sl w A (data.map bv)) :
 Calls Tryz.prog 132 #[.agg #[.int .i64 1413,.bool false,.slice A n c]] w fun e w'=>e= .returned (.tuple #[.string (strL (53 :: 56 :: 53 :: 35 :: hexL data)),.int .i64 0])∧ Below w.heap.size w w':=by
 have q:=zdb w 62 #[.int .i64 1413,.bool false,.slice A n c]
 have HB:=zak (zc1 (Below.refl w.heap.size w) (.cells #[.int .i64 1413,.bool false,.slice A n c] 62))
 have HQ:=zak q
 have HS:=zak hs
 have HN:=zak hn
 clear hs hn
 obtain⟨q_c0,q_c1,q_c2⟩:= zc4 q
 have q_f:=q.frozen
 go_enter Tryz.func132,Tryz.ntmps132
 go_wp2_with fail
 refine (zqv 1413 A n c _ ⟨by omega,by omega⟩ h8).mono ?_
 rintro e w1 ⟨rfl,hb1⟩
 have HQ1:=zak (HQ.out.below hb1 HQ.out.lt)
 have HB1:=zak (zc0 hb1 HB.out)
 clear q_c0 q_c1 q_c2 q_f
 have q1:=HQ1.out
 obtain⟨q1_c0,q1_c1,q1_c2⟩:= zc4 q1
 have q1_f:=q1.frozen
 have HSB:=zak (Blk.new w1 5 #[.int .u8 5,.int .u8 133])
 clear hb1 q HQ
 go_wp2_with fail
 refine (zqu (some ⟨w1.heap.size,0,none⟩) 2 2 [5,133] _ rfl (by omega) HSB.out.sl).mono ?_
 rintro e w2 ⟨rfl,hb2⟩
 rw[show (⟨(hexL [5,133]).toArray⟩:ByteArray)=⟨#[48,53,56,53]⟩ by decide]
 have hb2':=zc0 hb2 (zc1 (Below.refl _ w1) (.cells #[.int .u8 5,.int .u8 133] 5))
 have q2:=HQ1.out.below hb2' HQ1.out.lt
 have HB2:=zak (zc0 hb2' HB1.out)
 clear q1_c0 q1_c1 q1_c2 q1_f
 obtain⟨q2_c0,q2_c1,q2_c2⟩:= zc4 q2
 have q2_f:=q2.frozen
 have zq:=q2.lt
 have HS2:=zak (HS.out.below HB2.out)
 clear hb2 hb2' q1 HSB HB1 HQ1
 go_upto_region 7 with fail
 obtain⟨hx,hhx⟩:∃ hx,hx=strL (hexL data):= ⟨_,rfl⟩
 have hxs:hx.size=2 * n:=by rw[hhx,zqw,zqs,← HN.out]
 have HHX:=zak hhx
 have hcat: ¬ (9223372036854775807 < 4+2 * n):= by omega
 clear hhx
 refine wp_region_held_drew (S:=(fun w'=>(∀ qA:Addr,qA.block < (w2).heap.size→w'.cell? qA=(w2).cell? qA)∧ Below (w2).heap.size (w2) w')) (by kernel_rfl) ?hS1 (fun hHeld=>?rest1)
 case hS1=>((try dsimp only);(((try go_split_ands);refine zcz ?_;all_goals exact bl)))
 case' rest1=>skip
 iterate 5 (refine tkN ?_;try simp only[PqL,Act.put])
 refine wpAnyH_ready (rs:= [5]) (by kernel_rfl) (by simp) ?_
 refine AllReadyH.cons (o:=_) rfl (fun K hK=>?_) .nil
 go_simp
 refine (zqu A n c data _ HN.out (by omega) (HS2.out.below bl)).mono ?_
 rw[show (⟨(hexL data).toArray⟩:ByteArray)=hx from HHX.out.symm]
 rintro e w3 ⟨rfl,hb3⟩
 refine hK.out _ _ ?hS9 (fun hHeld=>?rest9)
 case hS9=>((try dsimp only);(((try go_split_ands);refine zcz ?_;all_goals exact bl)))
 case' rest9=>(clear hK K;try simp only[PqL,Act.put])
 refine tkH 6 ?_
 try simp only[PqL,Act.put]
 refine tkH 7 ?_
 try simp only[PqL,Act.put]
 refine tkH 8 ?_
 try simp only[PqL,Act.put]
 refine wpAnyH_done (by kernel_rfl) ?_ _
 have hEnd:=hHeld.2
 repeat (clear hHeld)
 go_wp2_with fail
 go_ret2
 refine⟨?_,zc0 hEnd HB2.out⟩
 have e:(⟨#[48,53,56,53]⟩:ByteArray).extract 1 4 ++ ⟨#[35]⟩=strL [53,56,53,35]:= by decide
 have e2:strL (53 :: 56 :: 53 :: 35 :: hexL data)=strL [53,56,53,35] ++ strL (hexL data):= by rw[zqx];rfl
 show Ending.returned (.tuple #[.string ((⟨#[48,53,56,53]⟩:ByteArray).extract 1 4 ++ ⟨#[35]⟩ ++ hx),.int .i64 0])=_
 rw[e2,e,HHX.out]
theorem zq8 (a b:List UInt8):strL a ++ (strL b ++ ⟨#[10]⟩)=strL (a ++ (b ++ [10])):= by
 rw[show (⟨#[10]⟩:ByteArray)=strL [10] from rfl,zqx,zqx]
theorem zq9 (g c:Nat) (A:Option Addr) (n cc:Nat) (data:List UInt8) (A2:Option Addr) (n2 cc2:Nat) (data2:List UInt8) (w:World) (hB:Sl w (some ⟨g,0,none⟩) [.int .i64 1413,.bool false,.slice A n cc,.int .i64 1413,.bool false,.slice A2 n2 cc2]) (hn:n=data.length) (h8:n≤8) (hs:Sl w A (data.map bv)) (hn2:n2=data2.length) (h82:n2≤8) (hs2:Sl w A2 (data2.map bv)) :
 Calls Tryz.prog 68 #[.slice (some ⟨g,0,none⟩) 2 c] w fun e w'=>e= .returned (.tuple #[.string (strL ((53 :: 56 :: 53 :: 35 :: (hexL data ++ [10])) ++ (53 :: 56 :: 53 :: 35 :: (hexL data2 ++ [10])))),.int .i64 0])∧ Below w.heap.size w w':=by
 have c0:w.cell? ⟨g,0,none⟩=some (.int .i64 1413):= by obtain⟨b,o,hA,hc⟩:= hB.at_ (j:=0) rfl;injection hA with hA;injection hA with h1 h2;subst h1;subst h2;exact hc
 have c1:w.cell? ⟨g,1,none⟩=some (.bool false):= by obtain⟨b,o,hA,hc⟩:= hB.at_ (j:=1) rfl;injection hA with hA;injection hA with h1 h2;subst h1;subst h2;exact hc
 have c2:w.cell? ⟨g,2,none⟩=some (.slice A n cc):= by obtain⟨b,o,hA,hc⟩:= hB.at_ (j:=2) rfl;injection hA with hA;injection hA with h1 h2;subst h1;subst h2;exact hc
 have c3:w.cell? ⟨g,3,none⟩=some (.int .i64 1413):= by obtain⟨b,o,hA,hc⟩:= hB.at_ (j:=3) rfl;injection hA with hA;injection hA with h1 h2;subst h1;subst h2;exact hc
 have c4:w.cell? ⟨g,4,none⟩=some (.bool false):= by obtain⟨b,o,hA,hc⟩:= hB.at_ (j:=4) rfl;injection hA with hA;injection hA with h1 h2;subst h1;subst h2;exact hc
 have c5:w.cell? ⟨g,5,none⟩=some (.slice A2 n2 cc2):= by obtain⟨b,o,hA,hc⟩:= hB.at_ (j:=5) rfl;injection hA with hA;injection hA with h1 h2;subst h1;subst h2;exact hc
 have zg:g < w.heap.size:=zal c0
 have HB:=zak (zc1 (Below.refl w.heap.size w) (.cells #[.int .i64 1413,.bool false,.slice A n cc] 62))
 have q:=zdb w 62 #[.int .i64 1413,.bool false,.slice A n cc]
 have HS:=zak (hs.alloc (.cells #[.int .i64 1413,.bool false,.slice A n cc] 62))
 have HS2:=zak hs2
 have HN:=zak hn
 have HN2:=zak hn2
 have HBB:=zak hB
 clear hB hs hn hs2 hn2
 go_enter Tryz.func68,Tryz.ntmps68
 go_wp2_with fail
 refine wp_loop_rounds 3 ?_
 rw[rounds_succ]
 obtain⟨q_c0,q_c1,q_c2⟩:= zc4 q
 have q_f:=q.frozen
 go_wp2_with fail
 refine (zq7 A n cc data _ HN.out h8 HS.out).mono ?_
 rintro e w2 ⟨rfl,hb2⟩
 have HB2:=zak (zc0 hb2 HB.out)
 obtain⟨sx,hsx⟩:∃ sx,sx=strL (53 :: 56 :: 53 :: 35 :: hexL data):= ⟨_,rfl⟩
 have hxs:sx.size=4+2 * n:=by rw[hsx,zqw];simp only[List.length_cons,zqs,← HN.out];omega
 have HSX:=zak hsx
 have hcat: ¬ (9223372036854775807 < 4+2 * n+1):= by omega
 rw[← hsx]
 have HBC:=zak (HBB.out.below HB2.out)
 have zg2:g < w2.heap.size:=by have:=HB2.out.size;omega
 have HB3:=zak (zc1 HB2.out (.cells #[.int .i64 1413,.bool false,.slice A2 n2 cc2] 62))
 have q3:=zdb w2 62 #[.int .i64 1413,.bool false,.slice A2 n2 cc2]
 have HS3:=zak ((HS2.out.below HB2.out).alloc (.cells #[.int .i64 1413,.bool false,.slice A2 n2 cc2] 62))
 clear q_c0 q_c1 q_c2 q_f
 have e3:w2.cell? ⟨g,3,none⟩=some (.int .i64 1413):= by obtain⟨b,o,hA,hc⟩:= HBC.out.at_ (j:=3) rfl;injection hA with hA;injection hA with h1 h2;subst h1;subst h2;exact hc
 have e4:w2.cell? ⟨g,4,none⟩=some (.bool false):= by obtain⟨b,o,hA,hc⟩:= HBC.out.at_ (j:=4) rfl;injection hA with hA;injection hA with h1 h2;subst h1;subst h2;exact hc
 have e5:w2.cell? ⟨g,5,none⟩=some (.slice A2 n2 cc2):= by obtain⟨b,o,hA,hc⟩:= HBC.out.at_ (j:=5) rfl;injection hA with hA;injection hA with h1 h2;subst h1;subst h2;exact hc
 clear hb2 hsx c0 c1 c2 c3 c4 c5 q
 go_wp2_with fail
 obtain⟨sy,hsy⟩:∃ sy,sy=(⟨#[]⟩:ByteArray) ++ (sx ++ ⟨#[10]⟩):= ⟨_,rfl⟩
 have hys:sy.size=5+2 * n:=by rw[hsy,HSX.out,zqy,zqw];simp only[List.length_cons,List.length_append,zqs,← HN.out,List.length_nil];omega
 have HSY:=zak hsy
 try rw[← hsy]
 clear hsy
 rw[rounds_succ]
 obtain⟨q3_c0,q3_c1,q3_c2⟩:= zc4 q3
 have q3_f:=q3.frozen
 go_wp2_with fail
 refine (zq7 A2 n2 cc2 data2 _ HN2.out h82 HS3.out).mono ?_
 rintro e w4 ⟨rfl,hb4⟩
 have HB4:=zak (zc0 hb4 HB3.out)
 obtain⟨sz,hsz⟩:∃ sz,sz=strL (53 :: 56 :: 53 :: 35 :: hexL data2):= ⟨_,rfl⟩
 have hzs:sz.size=4+2 * n2:=by rw[hsz,zqw];simp only[List.length_cons,zqs,← HN2.out];omega
 have HSZ:=zak hsz
 have hcat2: ¬ (9223372036854775807 < 4+2 * n2+1):= by omega
 have hcat3: ¬ (9223372036854775807 < 5+2 * n+(4+2 * n2+1)):= by omega
 rw[← hsz]
 clear hb4 hsz
 go_wp2_with fail
 rw[rounds_succ]
 go_wp2_with fail
 go_ret2
 refine⟨?_,HB4.out⟩
 show Ending.returned (.tuple #[.string (sy ++ (sz ++ ⟨#[10]⟩)),.int .i64 0])=_
 rw[HSY.out,HSX.out,HSZ.out,zqy,zq8]
 rfl
end
section
open Go.RowKit Go.Maps
set_option maxRecDepth 100000
set_option maxHeartbeats 8000000
def k23E:Ent:=⟨4119,0,⟨#[98,101,97,116]⟩,6,4,false,false,0,0,1000,[20,0]⟩
theorem zra:chkE [k23E] 0=0:=by decide +kernel
theorem zrb:NewP [k23E] 0 0:= .inr (.inr ⟨by decide,rfl,rfl,fun j hj=>by
 have:j=0:=by simp at hj;exact hj
 subst this
 exact zra⟩)
theorem zrc:SortedE [k23E]:= List.pairwise_singleton _ _
theorem zrd:ValsP [k23E] [[20,0]]:= by
 intro j E v hE hv
 cases j with
 | zero=>
   simp at hE hv
   subst hE hv
   decide +kernel
 | succ j=>simp at hE
def k23X:SdoS:=⟨segZ,blkZ,1541,1413,0⟩
def k23f:Frm:=⟨1541,false,[64,23,16,0,0,0,0,0]⟩
def k23g:Frm:=⟨1541,false,[255,0,0,0,0,0,0,0]⟩
def k23Y:SdoS:=sdRS [k23E] [[20,0]] k23X k23f
def k23Z:SdoS:=sdRS [k23E] [[20,0]] k23Y k23g
theorem k23_1:frmL 1413 (sdRO [k23E] [[20,0]] k23X k23f).ms= [⟨1413,false,[75,23,16,0,20,0,0,0]⟩]:= by decide +kernel
theorem k23_2:(sdRO [k23E] [[20,0]] k23X k23f).wr=false:=by decide +kernel
theorem k23_3:frmL 1413 (sdRO [k23E] [[20,0]] k23Y k23g).ms= [⟨1413,false,[128,0,0,0,1,0,4,5]⟩]:= by decide +kernel
theorem k23_4:sdBusy k23Z=false:=by decide +kernel
theorem zre:k23Z.sg.st=0∧k23Z.bk.st=0:=by decide +kernel
theorem k23_t:strL ((53 :: 56 :: 53 :: 35 :: (hexL [75,23,16,0,20,0,0,0] ++ [10])) ++ (53 :: 56 :: 53 :: 35 :: (hexL [128,0,0,0,1,0,4,5] ++ [10])))=⟨#[53,56,53,35,52,98,49,55,49,48,48,48,49,52,48,48,48,48,48,48,10,53,56,53,35,56,48,48,48,48,48,48,48,48,49,48,48,48,52,48,53,10]⟩:= by decide +kernel
theorem zrf {w:World} {B n c p ps pb:Nat} {A:Option Addr} {l:List UInt8} (h:zdq w B A n c l) (h1:p < B∧ps < B∧pb < B):∀ ad,A=some ad→ad.block < w.heap.size∧ad.block≠p∧ad.block≠ps∧ad.block≠pb:=by
 intro ad e
 rcases h.own.shape with ⟨rfl,_⟩ | ⟨g,rfl,h2,h3⟩
 · cases e
 · injection e with e
   subst e
   exact⟨h3,by show g≠p;omega,by show g≠ps;omega,by show g≠pb;omega⟩
theorem zrg {w:World} {F:Nat→Prop} {A:Option Addr} {n c:Nat} {f1 f2:Frm} {ds:List (Option Addr×Nat)} (h:zd3 frF 3 62 Frm.data w F A n c [f1,f2] ds):∃ g A1 c1 A2 c2,A=some ⟨g,0,none⟩∧ n=2∧Sl w (some ⟨g,0,none⟩) [.int .i64 f1.id,.bool f1.re,.slice A1 f1.data.length c1,.int .i64 f2.id,.bool f2.re,.slice A2 f2.data.length c2]∧ zdq w 0 A1 f1.data.length c1 f1.data∧zdq w 0 A2 f2.data.length c2 f2.data:=by
 obtain⟨d1,hd1,hO1,_⟩:= h.elem (j:=0) (v:=f1) rfl
 obtain⟨d2,hd2,hO2,_⟩:= h.elem (j:=1) (v:=f2) rfl
 obtain⟨g,hA,_,_⟩:= h.cells zgd (j:=0) (v:=f1) rfl hd1 (by omega)
 have hl:=h.hd
 obtain⟨e1,e2,rfl⟩:∃ e1 e2,ds= [e1,e2]:= by
  match ds,hl with
  | [e1,e2],_=>exact⟨e1,e2,rfl⟩
 simp at hd1 hd2
 subst hd1 hd2
 subst hA
 exact⟨g,e1.1,e1.2,e2.1,e2.2,rfl,h.hn,h.own.sl,hO1,hO2⟩
theorem zrh {w w':World} {G:Nat→Prop} {p ps pb pd:Nat} {X:SdoS} (h:DV w G p ps pb pd X) (h1:X.sg.st=0) (h2:X.bk.st=0) (hk:∀ q,q=p∨q=ps∨q=pb→q < w.heap.size→w'.heap[q]? =w.heap[q]?):DV w' (fun _=>False) p ps pb pd X:=by
 obtain⟨A,n,c,hB⟩:= h.seg.blk_
 obtain⟨A',n',c',hB'⟩:= h.bkv.blk_
 exact⟨(hk p (.inl rfl) h.blk.lt).trans h.blk,SV_.idle_ ((hk ps (.inr (.inl rfl)) hB.lt).trans hB) h1,BV_.idle_ ((hk pb (.inr (.inr rfl)) hB'.lt).trans hB') h2,h.ne,⟨id,id,id⟩⟩
theorem zri (w:World):Calls Tryz.prog 23 #[] w (TrueB w):= by
 have q:=zdc w 5 97 #[.int .u8 20,.int .u8 0] (entV k23E (some ⟨w.heap.size,0,none⟩) 2 2)
 have hbw:=zc1 (zc1 (Below.refl w.heap.size w) (.cells #[.int .u8 20,.int .u8 0] 5)) (.cells (entV k23E (some ⟨w.heap.size,0,none⟩) 2 2) 97)
 have HSL:=zak (zqk (E:=k23E) q.2 (Nat.le_refl _) q.1.sl)
 go_enter Tryz.func23,Tryz.ntmps23
 go_wp2_with fail
 refine (zqj _ 1 1 [k23E] _ rfl HSL.out (by intro E hE;simp at hE;subst hE;exact⟨by decide,by decide⟩)).mono ?_
 rintro e w1 ⟨v,er,at_,rfl,h1,h2,h3,hb1⟩
 obtain⟨rfl,rfl⟩:= zb1 h1 zrb
 obtain⟨pd,gl,n,cl,Av,cv,ds,es,rfl,hn,hD⟩:= h3 rfl
 have hbw1:=zc0 hb1 hbw
 have HB1:=zak hbw1
 have HD:=zak (hD.mono (G:=fun g=>w.heap.size≤g) (fun g _ h=>Nat.le_trans hbw.size h))
 have HN:=zak hn
 clear h1 h2 h3 hD hb1 hn q hbw HSL hbw1
 go_wp2_with fail
 refine (zqi (N:=w.heap.size) HN.out HD.out zrc (by decide) zrd 5 ⟨by omega,by omega⟩ HB1.out.size).mono ?_
 rintro e w2 ⟨p,ps,pb,rfl,hK,hb2⟩
 have HK:Hid (SKM w.heap.size p ps pb pd [k23E] _ _ [[20,0]] k23X w2):= zak hK
 have HB2:=zak (zc0 hb2 HB1.out)
 have zp:=hK.dv.lt
 clear hK hb2 HD HB1
 go_wp2_with fail
 refine (zq3 _).mono ?_
 rintro e w3 ⟨A3,n3,c3,rfl,hO3,hb3⟩
 have hn3:n3=8:=hO3.hn
 subst hn3
 have HB3:=zak (zc1 (zc0 hb3 HB2.out) (.cells (frV 1541 false A3 8 c3) 62))
 have HK3:=zak ((HK.out.step hb3).step (zc1 (Below.refl _ _) (.cells (frV 1541 false A3 8 c3) 62)))
 have HO3:=zak (hO3.alloc (.cells (frV 1541 false A3 8 c3) 62))
 have HF3:=zak (zdb w3 62 (frV 1541 false A3 8 c3))
 have HZ3:=zak (show w2.heap.size≤w3.heap.size from hb3.size)
 have HZ2:=zak zp
 clear hO3 hb3 HK HB2 zp
 unfold frV at HB3 HK3 HO3 HF3
 unfold frV
 go_wp2_with fail
 refine (zq4 _).mono ?_
 rintro e w4 ⟨A4,n4,c4,rfl,hO4,hb4⟩
 have hn4:n4=8:=hO4.hn
 subst hn4
 have HB4:=zak (zc1 (zc0 hb4 HB3.out) (.cells (frV 1541 false A4 8 c4) 62))
 have HK4:=zak ((HK3.out.step hb4).step (zc1 (Below.refl _ _) (.cells (frV 1541 false A4 8 c4) 62)))
 have HO4:=zak ((HO3.out.below hb4).alloc (.cells (frV 1541 false A4 8 c4) 62))
 have HP4:=zak (hO4.alloc (.cells (frV 1541 false A4 8 c4) 62))
 have hf4:=(HF3.out.below hb4 HF3.out.lt).alloc (.cells (frV 1541 false A4 8 c4) 62)
 have HG4:=zak (zdb w4 62 (frV 1541 false A4 8 c4))
 have HZ4:=zak (show w3.heap.size+1≤w4.heap.size from by have:=hb4.size;simpa using this)
 have HF4:=zak hf4
 clear hO4 hb4 HK3 HB3 HO3 HF3
 unfold frV at HB4 HK4 HO4 HP4 hf4 HG4 HF4
 unfold frV
 have zf:=hf4.lt
 obtain⟨hf4_c0,hf4_c1,hf4_c2⟩:= zc4 hf4
 have hf4_f:=hf4.frozen
 go_wp2_with fail
 refine (zqb HK4.out k23f A3 8 c3 rfl HO4.out.le HO4.out.sl (zrf HO4.out HZ2.out)).mono ?_
 rintro e w5 ⟨N5,Y5,As5,ns5,cs5,ds5,Av5,nv5,cv5,G5,rfl,hN5,hOf5,_,_,_,hK5,_,ho5⟩
 obtain⟨O5,hO5⟩:∃ O5,O5=sdRO [k23E] [[20,0]] k23X k23f:=⟨_,rfl⟩
 have hwr5:O5.wr=false:=by rw[hO5];exact k23_2
 have hOf5':zgg w5 (fun g=>N5≤g) As5 ns5 cs5 [⟨1413,false,[75,23,16,0,20,0,0,0]⟩] ds5:=by rw[← k23_1];exact hOf5
 have HOF5:=zak hOf5'
 have HK5:Hid (SKM w.heap.size p ps pb pd [k23E] _ G5 [[20,0]] k23Y w5):= zak hK5
 have hz24:=HZ2.out
 have hz34:=HZ3.out
 have hz44:=HZ4.out
 have HNE:Hid (∀ q,w2.heap.size≤q→ ¬ (q=p∨q=ps∨q=pb)):= zak (fun q hq h=>by rcases h with h | h | h<;>omega)
 have HP5:=zak (zi0 HP4.out ho5 (fun g h1 _=>HNE.out g (by simp at h1;omega)))
 have HG5:=zak (show Blk w5 w4.heap.size 62 #[.int .i64 1541,.bool false,.slice A4 8 c4] from (ho5.block _ (by simp) (HNE.out _ (by omega))).trans HG4.out)
 have HB5:=zak (zdw ho5 HB4.out (fun i hi=>by have:=HK5.out.lo;rcases hi with h | h | h<;>omega))
 have HN5:Hid (w4.heap.size+1≤N5):= zak (by simpa using hN5)
 rw[← hO5,hwr5]
 have hal5:=zc1 (Below.refl w5.heap.size w5) (.cells #[.int .i64 O5.ix,.int .i64 O5.sub,.slice Av5 nv5 cv5] 46)
 have HK5a:=zak (HK5.out.step hal5)
 have HP5a:=zak (HP5.out.below hal5)
 have HG5a:=zak (HG5.out.alloc (.cells #[.int .i64 O5.ix,.int .i64 O5.sub,.slice Av5 nv5 cv5] 46))
 have HOF5a:=zak (HOF5.out.below hal5)
 have HB5a:=zak (zc1 HB5.out (.cells #[.int .i64 O5.ix,.int .i64 O5.sub,.slice Av5 nv5 cv5] 46))
 have HZ5:Hid ((w5.alloc (.cells #[.int .i64 O5.ix,.int .i64 O5.sub,.slice Av5 nv5 cv5] 46)).heap.size=w5.heap.size+1):= zak (by simp)
 clear hal5 HK5 HP5 HG5 HOF5 HB5
 clear hO5 hwr5 hOf5 hOf5' hK5 ho5 hN5 HK4 HO4 HP4 HG4 HB4 HF4
 clear hf4_c0 hf4_c1 hf4_c2 hf4_f
 clear hf4 zf
 have hg5:=HG5a.out
 have zg5:=hg5.lt
 obtain⟨hg5_c0,hg5_c1,hg5_c2⟩:= zc4 hg5
 have hg5_f:=hg5.frozen
 go_wp2_with fail
 refine (zqb HK5a.out k23g A4 8 c4 rfl HP5a.out.le HP5a.out.sl (zrf HP5a.out ⟨by simp;omega,by simp;omega,by simp;omega⟩)).mono ?_
 rintro e w6 ⟨N6,Y6,As6,ns6,cs6,ds6,Av6,nv6,cv6,G6,rfl,hN6,hOf6,_,_,_,hK6,_,ho6⟩
 obtain⟨O6,hO6⟩:∃ O6,O6=sdRO [k23E] [[20,0]] k23Y k23g:=⟨_,rfl⟩
 have hOf6':zgg w6 (fun g=>N6≤g) As6 ns6 cs6 [⟨1413,false,[128,0,0,0,1,0,4,5]⟩] ds6:=by rw[← k23_3];exact hOf6
 have HOF6:=zak hOf6'
 have HK6:Hid (SKM w.heap.size p ps pb pd [k23E] _ G6 [[20,0]] k23Z w6):= zak hK6
 have HOE6:=zak (HOF5a.out.1.keep (w':=w6) (fun g hg hlt=>ho6.block g hlt (HNE.out g (by have:=HN5.out;omega))))
 have HB6:=zak (zdw ho6 HB5a.out (fun i hi=>by have:=HK6.out.lo;rcases hi with h | h | h<;>omega))
 have HN6:Hid (w5.heap.size≤N6):= zak (by have:=HZ5.out;omega)
 have HS6:=zak ho6.size
 have hn5:ns5=1:=HOF5a.out.1.hn
 have hn6:ns6=1:=hOf6'.1.hn
 subst hn5 hn6
 rw[← hO6]
 have hal6:=zc1 (Below.refl w6.heap.size w6) (.cells #[.int .i64 O6.ix,.int .i64 O6.sub,.slice Av6 nv6 cv6] 46)
 have HK6a:=zak (HK6.out.step hal6)
 have HOF6a:=zak (HOF6.out.below hal6)
 have HOE6a:=zak (HOE6.out.below hal6)
 have HB6a:=zak (zc1 HB6.out (.cells #[.int .i64 O6.ix,.int .i64 O6.sub,.slice Av6 nv6 cv6] 46))
 have HZ6:Hid ((w6.alloc (.cells #[.int .i64 O6.ix,.int .i64 O6.sub,.slice Av6 nv6 cv6] 46)).heap.size=w6.heap.size+1):= zak (by simp)
 clear hal6 HK6 HOF6 HOE6 HB6
 clear hO6 hOf6 hOf6' hK6 ho6 hN6 HK5a HP5a HG5a HB5a HOF5a
 clear hg5_c0 hg5_c1 hg5_c2 hg5_f
 clear hg5 zg5
 obtain⟨i0,hi0,hz0,hz1,hz2⟩:= info_parts zgf
 go_wp2_with (at_builtin;refine zpj (G:=fun _=>True) _ rfl _ _ 65 rfl zgd zge tfr8 i0 _ 40 Tryz.underlying65 hi0 hz0 hz1 hz2 rfl (by omega) (by omega) As5 1 cs5 _ _ rfl HOE6a.out As6 1 cs6 _ _ rfl HOF6a.out.1 (fun _ _=>trivial) (fun _ _ _=>trivial) (fun _ _ _=>trivial) (by omega) ?_;intro A7 c7 w7 hO7 hg7 hr7)
 have hO:zdv (fun g=>N5≤g) _ w7:=zdv.of_grown (F:=fun g=>N5≤g) hg7 (fun g e=>zgi HOE6a.out e)
 have hlo:=HK6a.out.lo
 have hn5:=HN5.out
 have HV7:=zak (zrh (w':=w7) HK6a.out.dv zre.1 zre.2 (fun q hq hl=>hO.block q hl (by rcases hq with h | h | h<;>omega)))
 have HB7:=zak (zdw hO HB6a.out (fun i hi=>by omega))
 obtain⟨g8,A8,c8,B8,d8,rfl,_,hS8,hO8,hP8⟩:= zrg hO7
 have HS8:=zak hS8
 have HO8:=zak hO8
 have HP8:=zak hP8
 clear hO7 hg7 hr7 hO hS8 hO8 hP8 HOE6a HOF6a HK6a HB6a
 refine (zq9 g8 c7 A8 8 c8 [75,23,16,0,20,0,0,0] B8 8 d8 [128,0,0,0,1,0,4,5] _ HS8.out rfl (by omega) HO8.out.sl rfl (by omega) HP8.out.sl).mono ?_
 rintro e w9 ⟨rfl,hb9⟩
 rw[k23_t]
 have HV9:=zak (HV7.out.low hb9)
 have HB9:=zak (zc0 hb9 HB7.out)
 clear hb9 HV7 HB7 HS8 HO8 HP8
 go_wp2_with fail
 refine (zok pd 128 (by omega) _).mono ?_
 rintro e w10 ⟨rfl,hb10⟩
 have HV10:=zak (HV9.out.low hb10)
 have HB10:=zak (zc0 hb10 HB9.out)
 clear hb10 HV9 HB9
 go_wp2_with fail
 refine (zmp HV10.out).mono ?_
 rintro e w11 ⟨rfl,hw11⟩
 subst hw11
 rw[show ((k23Z.sg.st != 0) || (k23Z.bk.st != 0))=false from k23_4]
 go_wp2_with fail
 go_ret
 exact (⟨rfl,HB10.out⟩:TrueB w _ _)
end
section
open Go.RowKit Go.Maps
set_option maxRecDepth 100000
set_option maxHeartbeats 8000000
theorem zrj (id:Int) (re:Bool) (A:Option Addr) (n c:Nat) (node:Int) (w:World) :
 Calls Tryz.prog 5 #[.agg #[.int .i64 id,.bool re,.slice A n c],.int .i64 node] w (TrueB w):= by
 have q:=zdb w 62 #[.int .i64 id,.bool re,.slice A n c]
 have HB:=zak (zc1 (Below.refl w.heap.size w) (.cells #[.int .i64 id,.bool re,.slice A n c] 62))
 have HQ:=zak q
 obtain⟨q_c0,q_c1,q_c2⟩:= zc4 q
 have q_f:=q.frozen
 by_cases h1:100 < n
 · go_enter Tryz.func5,Tryz.ntmps5
   go_wp2_with fail
   refine (zri _).mono ?_
   rintro e w1 ⟨rfl,hb1⟩
   go_wp2_with fail
   go_ret
   exact (⟨rfl,zc0 hb1 HB.out⟩:TrueB w _ _)
 go_enter Tryz.func5,Tryz.ntmps5
 go_wp2_with fail
 refine (zoj node _).mono ?_
 rintro e w1 ⟨rfl,hw1⟩
 subst hw1
 go_wp2_with fail
 refine (zmr _).mono ?_
 rintro e w1 ⟨rfl,hw1⟩
 subst hw1
 go_wp2_with fail
 refine (zow ⟨id,re,[]⟩ A n c _).mono ?_
 rintro e w3 ⟨rfl,hb3⟩
 have HB3:=zak (zc1 (zc0 hb3 HB.out) (.cells #[.int .i64 0,.int .i64 0,.slice none 0 0] 46))
 have q3:=zdb w3 46 #[.int .i64 0,.int .i64 0,.slice none 0 0]
 clear hb3 HQ HB q
 clear q_c0 q_c1 q_c2 q_f
 obtain⟨q3_c0,q3_c1,q3_c2⟩:= zc4 q3
 have q3_f:=q3.frozen
 go_wp2_with fail
 refine (zms 0 _).mono ?_
 rintro e w4 ⟨rfl,hw4⟩
 subst hw4
 go_wp2_with fail
 refine (zmt _).mono ?_
 rintro e w4 ⟨rfl,hw4⟩
 subst hw4
 go_wp2_with fail
 refine (zmq _).mono ?_
 rintro e w4 ⟨rfl,hw4⟩
 subst hw4
 go_wp2_with fail
 refine (zri _).mono ?_
 rintro e w5 ⟨rfl,hb5⟩
 go_wp2_with fail
 go_ret
 exact (⟨rfl,zc0 hb5 HB3.out⟩:TrueB w _ _)
end
end Go.Proofs.YthdbckbpldlkeaaGreat
