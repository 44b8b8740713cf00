/- None -/
import Derived.Laws.RangeString
import Derived.LoopN
import Derived.Laws.BitsAllLaws
import Derived.Test.YthdbckbpldlkeaaGreatS18
namespace Go.Proofs.YthdbckbpldlkeaaGreat
set_option linter.unusedVariables false
set_option linter.unusedSimpArgs false
set_option linter.unnecessarySimpa false
section
open Go.RowKit
set_option maxRecDepth 100000
set_option maxHeartbeats 4000000
def hexD (c:Nat):Prop:=(48≤c∧c≤57)∨ (97≤c∧c≤102)
instance (c:Nat):Decidable (hexD c):= by unfold hexD;infer_instance
def nibN (c:Nat):Nat:=if c≤57 then c - 48 else c - 87
theorem zql (c:Nat) (hc:hexD c) (w:World):Calls Tryz.prog 184 #[.int .u8 (c:Nat)] w fun e w'=>e= .returned (.tuple #[.int .u8 (nibN c:Nat),.bool true])∧ w=w':=by
 rcases hc with ⟨h1,h2⟩ | ⟨h1,h2⟩
 · have e:((nibN c:Nat):Int)=(c:Int) - 48:=by unfold nibN;rw[if_pos h2];omega
   rw[e]
   have h1':(48:Int)≤ (c:Int):= by omega
   have h2':(c:Int)≤ 57:=by omega
   clear e h1 h2
   go_enter Tryz.func184,Tryz.ntmps184
   go_wp2_with fail
   go_ret2
   exact⟨rfl,rfl⟩
 · have e:((nibN c:Nat):Int)=(c:Int) - 87:=by unfold nibN;rw[if_neg (by omega)];omega
   have E:=zak e
   have h1':(97:Int)≤ (c:Int):= by omega
   have h2':(c:Int)≤ 102:=by omega
   have h3': ¬ (c:Int)≤ 57:=by omega
   have h4':(48:Int)≤ (c:Int):= by omega
   have w1:(c:Int) - 97+10=(c:Int) - 87:=by omega
   clear e h1 h2
   go_enter Tryz.func184,Tryz.ntmps184
   go_wp2_with fail
   go_ret2
   exact⟨by rw[E.out,← w1];rfl,rfl⟩
theorem zqm (c:Nat) (h1:48≤c∧c≤57) (w:World):Calls Tryz.prog 183 #[.int .i32 (c:Nat)] w fun e w'=>e= .returned (.tuple #[.int .i64 ((c:Int) - 48),.bool true])∧ w=w':=by
 have h1':(48:Int)≤ (c:Int):= by omega
 have h2':(c:Int)≤ 57:=by omega
 clear h1
 go_enter Tryz.func183,Tryz.ntmps183
 go_wp2_with fail
 go_ret2
 exact⟨rfl,rfl⟩
def unhL (s:ByteArray) (n:Nat):List UInt8:=(List.range n).map fun i=>UInt8.ofNat (nibN ((s.data.getD (2 * i) 0).toNat) * 16+nibN ((s.data.getD (2 * i+1) 0).toNat))
theorem zqn (s:ByteArray) (n:Nat):unhL s (n+1)=unhL s n ++ [UInt8.ofNat (nibN ((s.data.getD (2 * n) 0).toNat) * 16+nibN ((s.data.getD (2 * n+1) 0).toNat))]:= by
 unfold unhL
 rw[List.range_succ,List.map_append]
 rfl
theorem gb (s:ByteArray) (i:Nat) (h:i < s.size):(s[i]'h).toNat=(s.data.getD i 0).toNat:=by
 have h':i < s.data.size:=h
 rw[show s[i]'h=s.data[i]'h' from rfl]
 unfold Array.getD
 rw[dif_pos h']
 rfl
theorem zqo (x y:Nat) (hx:x < 16) (hy:y < 16):bits BinOp.or IntKind.u8 ((x:Int) * 16) (y:Int)=((x * 16+y:Nat):Int):= by
 have h:∀ a:Fin 16,∀ b:Fin 16,bits BinOp.or IntKind.u8 ((a.val:Int) * 16) (b.val:Int)=((a.val * 16+b.val:Nat):Int):= by decide +kernel
 exact h ⟨x,hx⟩ ⟨y,hy⟩
theorem zqp (W:World) (z:Nat) (hz:z < 256):Sl (W.alloc (.cells #[.int .u8 (z:Nat)] 5)) (some ⟨W.heap.size,0,none⟩) ([UInt8.ofNat z].map bv):= by
 intro j u hu
 cases j with
 | succ j=>simp at hu
 | zero=>
   have e:(UInt8.ofNat z).toNat=z:=by simp;omega
   simp[bv,e] at hu
   subst hu
   refine⟨_,rfl,?_⟩
   exact (Blk.new W 5 #[.int .u8 (z:Nat)]).cell 0 rfl
theorem zqq (s:ByteArray) (n:Nat) (hs:s.size=2 * n) (hn:n≤1000) (hd:∀ i,i < s.size→hexD ((s.data.getD i 0).toNat)) (w:World) :
 Calls Tryz.prog 130 #[.string s] w fun e w'=> ∃ A c,e= .returned (.tuple #[.slice A n c,.int .i64 0])∧ zdq w' w.heap.size A n c (unhL s n)∧ Below w.heap.size w w':=by
 have HD:=zak hd
 have HS:=zak hs
 have hr:(s.size:Int) % 2=0:=by omega
 have hq:(s.size:Int) / 2=(n:Int):= by omega
 clear hd hs
 go_enter Tryz.func130,Tryz.ntmps130
 go_wp2_with (at_make;refine mk_b _ rfl _ _ rfl _ _ _ _ 0 n rfl rfl rfl rfl (Nat.zero_le _) (by omega) w.heap.size rfl ?_;intro w1 hown1 hz1 hb1)
 have HO1:=zak hown1
 have HB1:=zak hb1
 clear hown1 hb1 hr
 go_loopw [2,3,4,5,6,7,8,9,21,22,23,24,25,26,27,28,29,30,31,32,33,34,35,36,37,38,39,40,41,42,43,44,45,46,47,48,49,50,51,52,53,54] (fun _ _ v4 _ _ _ _ _ v21 _ _ _ _ _ _ _ _ _ _ _ _ _ _ _ _ _ _ _ _ _ _ _ _ _ _ _ _ _ _ _ _ _ wr=> ∃ k A' c',v21= .int .i64 (k:Nat)∧ v4= .slice A' k c'∧k≤n∧Hid (zdq wr w.heap.size A' k c' (unhL s k)∧ Below w.heap.size w wr)) (fun _ _ _ _ _ _ _ _ v21 _ _ _ _ _ _ _ _ _ _ _ _ _ _ _ _ _ _ _ _ _ _ _ _ _ _ _ _ _ _ _ _ _ _=>n - (intOf v21).toNat)
 case atStart=>exact⟨0,_,_,rfl,rfl,Nat.zero_le _,zak ⟨HO1.out,HB1.out⟩⟩
 case round=>
  obtain⟨k,A',c',rfl,rfl,hk,HR⟩:= hrel
  by_cases hlt:k < n
  · have i1:2 * k < s.size:=by have:=HS.out;omega
    have i2:2 * k+1 < s.size:=by have:=HS.out;omega
    obtain⟨x,hx⟩:∃ x,x=nibN ((s.data.getD (2 * k) 0).toNat):= ⟨_,rfl⟩
    obtain⟨y,hy⟩:∃ y,y=nibN ((s.data.getD (2 * k+1) 0).toNat):= ⟨_,rfl⟩
    have HX:=zak hx
    have HY:=zak hy
    have hx16:x < 16:=by
     have:=HD.out _ i1
     rw[hx];unfold nibN;unfold hexD at this;split<;>omega
    have hy16:y < 16:=by
     have:=HD.out _ i2
     rw[hy];unfold nibN;unfold hexD at this;split<;>omega
    clear hx hy
    go_wp2_with fail
    rw[gb s (2 * k) i1]
    refine (zql _ (HD.out _ i1) wr).mono ?_
    rintro e w2 ⟨rfl,rfl⟩
    rw[← HX.out]
    go_wp2_with fail
    rw[gb s (2 * k+1) i2]
    refine (zql _ (HD.out _ i2) wr).mono ?_
    rintro e w2 ⟨rfl,rfl⟩
    rw[← HY.out]
    have hb:=zqo x y hx16 hy16
    have HXY:=zak (show unhL s (k+1)=unhL s k ++ [UInt8.ofNat (x * 16+y)] by rw[HX.out,HY.out];exact zqn s k)
    go_wp2_with (at_builtin;refine zdr _ rfl _ _ rfl w.heap.size A' k c' (unhL s k) rfl (HR.out.1.alloc _) (some ⟨wr.heap.size,0,none⟩) 1 1 [UInt8.ofNat (x * 16+y)] rfl rfl (zqp wr (x * 16+y) (by omega)) (by omega) (by have:=HR.out.2.size;simp;omega) (k+1) rfl ?_;intro A6 c6 w6 h1 h2 h3 h4)
    refine⟨⟨k+1,A6,c6,by congr 1,rfl,by omega,zak ⟨by rw[HXY.out];exact h1,(zc1 HR.out.2 _).trans h4⟩⟩,by simp only[intOf];omega⟩
  · obtain rfl:n=k:=by omega
    go_wp2_with fail
    go_ret2
    exact⟨A',c',rfl,HR.out.1,HR.out.2⟩
end
section
open Go.RowKit
set_option maxRecDepth 100000
set_option maxHeartbeats 4000000
end
section
open Go.RowKit
set_option maxRecDepth 100000
set_option maxHeartbeats 4000000
def hexS:ByteArray:=⟨#[48,49,50,51,52,53,54,55,56,57,97,98,99,100,101,102]⟩
def dig (d:Nat):UInt8:=if d < 10 then UInt8.ofNat (48+d) else UInt8.ofNat (87+d)
def hexL (b:List UInt8):List UInt8:=b.flatMap fun c=> [dig (c.toNat / 16),dig (c.toNat % 16)]
theorem zqr (b:List UInt8) (c:UInt8):hexL (b ++ [c])=hexL b ++ [dig (c.toNat / 16),dig (c.toNat % 16)]:= by simp[hexL]
theorem zqs (b:List UInt8):(hexL b).length=2 * b.length:=by
 induction b with
 | nil=>rfl
 | cons c b ih=>simp only[hexL,List.flatMap_cons,List.length_append,List.length_cons,List.length_nil] at ih ⊢;omega
theorem zqt (d:Nat) (h:d < 16) (W:World):(Instr.index 9 (.string ⟨#[48,49,50,51,52,53,54,55,56,57,97,98,99,100,101,102]⟩) (.int .u8 (d:Nat))).run Tryz.prog W= .ok (.int .u8 ((dig d).toNat:Nat)) W:=by
 have h16:d=0∨d=1∨d=2∨d=3∨d=4∨d=5∨d=6∨d=7∨d=8∨d=9∨d=10∨d=11∨d=12∨d=13∨d=14∨d=15:=by omega
 rcases h16 with rfl | rfl | rfl | rfl | rfl | rfl | rfl | rfl | rfl | rfl | rfl | rfl | rfl | rfl | rfl | rfl
 all_goals
  show _=_
  kernel_rfl
theorem and15 (c:Nat) (h:c < 256):bits BinOp.and IntKind.u8 (c:Int) 15=((c % 16:Nat):Int):= by
 have:∀ x:Fin 256,bits BinOp.and IntKind.u8 (x.val:Int) 15=((x.val % 16:Nat):Int):= by decide +kernel
 exact this ⟨c,h⟩
theorem zqu (A:Option Addr) (n c:Nat) (b:List UInt8) (w:World) (hn:n=b.length) (hl:n≤1000) (hs:Sl w A (b.map bv)) :
 Calls Tryz.prog 185 #[.slice A n c] w fun e w'=>e= .returned (.string ⟨(hexL b).toArray⟩)∧ Below w.heap.size w w':=by
 have HN:=zak hn
 have HS:=zak hs
 clear hn hs
 go_enter Tryz.func185,Tryz.ntmps185
 go_wp2_with (at_make;refine mk_b _ rfl _ _ rfl _ _ _ _ 0 (2 * n) rfl rfl rfl (by omega) (Nat.zero_le _) (by omega) w.heap.size rfl ?_;intro w1 hown1 hz1 hb1)
 have HO1:=zak hown1
 have HB1:=zak hb1
 clear hown1 hb1
 go_loopw [3,5,12,13,14,15,16,17,18,19,20,21,22,23,24,25] (fun v3 _ v12 _ _ _ _ _ _ _ _ _ _ _ _ _ wr=> ∃ k A' c',v12= .int .i64 (k:Nat)∧ v3= .slice A' (2 * k) c'∧k≤n∧Hid (zdq wr w.heap.size A' (2 * k) c' (hexL (b.take k))∧ Below w.heap.size w wr)) (fun _ _ v12 _ _ _ _ _ _ _ _ _ _ _ _ _ _=>n - (intOf v12).toNat)
 case atStart=>exact⟨0,_,_,rfl,rfl,Nat.zero_le _,zak ⟨HO1.out,HB1.out⟩⟩
 case round=>
  obtain⟨k,A',c',rfl,rfl,hk,HR⟩:= hrel
  by_cases hlt:k < n
  · obtain⟨x,hx⟩:∃ x,b[k]? =some x:=⟨b[k]'(by rw[← HN.out];exact hlt),List.getElem?_eq_getElem _⟩
    obtain⟨bb,oo,rfl,hc⟩:= (HS.out.below HR.out.2).at_ (show (b.map bv)[k]? =some (bv x) by rw[List.getElem?_map,hx];rfl)
    have HX:=zak hx
    unfold bv at hc
    obtain⟨y,hy⟩:∃ y,y=x.toNat:=⟨_,rfl⟩
    have hy256:y < 256:=by rw[hy];exact x.toNat_lt
    have HY:=zak hy
    rw[← hy] at hc
    obtain⟨d1,hd1⟩:∃ d,d=y / 16:=⟨_,rfl⟩
    obtain⟨d2,hd2⟩:∃ d,d=y % 16:=⟨_,rfl⟩
    have hsh:(y:Int) / 16=(d1:Int):= by omega
    have hand:bits BinOp.and IntKind.u8 (y:Int) 15=(d2:Int):= by rw[and15 y hy256,hd2]
    have hi1:=fun W=>zqt d1 (by omega) W
    have hi2:=fun W=>zqt d2 (by omega) W
    have HD:=zak (And.intro hd1 hd2)
    clear hx hy hd1 hd2
    go_upto_region 5 with fail
    have HSB:Hid (Sl (wr.drew.alloc (.cells #[.int .u8 ((dig d1).toNat:Nat),.int .u8 ((dig d2).toNat:Nat)] 5)) (some ⟨wr.heap.size,0,none⟩) ([dig d1,dig d2].map bv)):= zak (Blk.new wr.drew 5 #[.int .u8 ((dig d1).toNat:Nat),.int .u8 ((dig d2).toNat:Nat)]).sl
    refine wp_region_held_drew (S:=(fun _=>True∧True)) (by kernel_rfl) ?hS1 (fun hHeld=>?rest1)
    case hS1=>((try dsimp only);(exact⟨trivial,trivial⟩))
    case' rest1=>skip
    iterate 7 (refine tkN ?_;try simp only[PqL,Act.put])
    refine wpAnyH_ready (rs:= [7]) (by kernel_rfl) (by simp) ?_
    refine AllReadyH.cons (o:=_) rfl (fun K hK=>?_) .nil
    go_simp
    refine hK.out _ _ ?hS11 (fun hHeld=>?rest11)
    case hS11=>((try dsimp only);(exact⟨trivial,trivial⟩))
    case' rest11=>(clear hK K;try simp only[PqL,Act.put])
    refine wpAnyH_ready (rs:= [8]) (by kernel_rfl) (by simp) ?_
    refine AllReadyH.cons (o:=_) rfl (fun K hK=>?_) .nil
    rw[if_pos (show Region.wanted _ _=true by kernel_rfl)]
    refine zi5 _ _ rfl w.heap.size A' (2 * k) c' (hexL (b.take k)) rfl (HR.out.1.drew.alloc _) _ 2 2 [dig d1,dig d2] rfl rfl HSB.out (by omega) (by have:=HR.out.2.size;simp;omega) (2 * (k+1)) (by omega) ?_
    intro A6 c6 w6 h1 h2
    have H6:=zak (And.intro h1 ((zc1 HR.out.2.drew _).trans h2))
    clear h1 h2
    refine hK.out _ _ ?hS14 (fun hHeld=>?rest14)
    case hS14=>((try dsimp only);(exact⟨trivial,trivial⟩))
    case' rest14=>(clear hK K;try simp only[PqL,Act.put])
    refine tkH 9 ?_
    try simp only[PqL,Act.put]
    refine wpAnyH_done (by kernel_rfl) ?_ _
    have hEnd:=hHeld.2
    repeat (clear hHeld)
    go_wp2_with fail
    have hstep:hexL (b.take (k+1))=hexL (b.take k) ++ [dig d1,dig d2]:= by
     obtain⟨hk1,hk2⟩:= List.getElem?_eq_some_iff.1 HX.out
     rw[List.take_succ_eq_append_getElem hk1,hk2,zqr,← HY.out,HD.out.1,HD.out.2]
    exact⟨⟨k+1,A6,c6,by congr 1,rfl,by omega,zak ⟨by rw[hstep];exact H6.out.1,H6.out.2⟩⟩,by simp only[intOf];omega⟩
  · obtain rfl:n=k:=by omega
    have hcv:∀ W,zdq W w.heap.size A' (2 * n) c' (hexL b)→ (convert 27 9 (.slice A' (2 * n) c')).run Tryz.prog W= .ok (.string ⟨(hexL b).toArray⟩) W:=fun W h=>zds (w:=W) c' h.hn h.sl
    have hcv2:=hcv wr (by have:=HR.out.1;rwa [HN.out,List.take_length,← HN.out] at this)
    clear hcv
    go_wp2_with fail
    go_ret
    exact⟨rfl,HR.out.2⟩
theorem zqv (id:Int) (A:Option Addr) (n c:Nat) (w:World) (hi:0≤id∧id≤2047) (hn:n≤8) :
 Calls Tryz.prog 131 #[.agg #[.int .i64 id,.bool false,.slice A n c]] w fun e w'=>e= .returned (.int .i64 0)∧ Below w.heap.size w w':=by
 have hb:=zc1 (Below.refl w.heap.size w) (.cells #[.int .i64 id,.bool false,.slice A n c] 62)
 obtain⟨h1,h2⟩:= hi
 have h3: ¬ id < 0:=by omega
 have h4: ¬ 2047 < id:=by omega
 have h5: ¬ 8 < n:=by omega
 clear h1 h2 hn
 go_enter Tryz.func131,Tryz.ntmps131
 go_wp2_with fail
 go_ret
 exact⟨rfl,hb⟩
def showL (id:Nat) (data:List UInt8):List UInt8:=(hexL [UInt8.ofNat (id / 256),UInt8.ofNat id]).drop 1 ++ 35 :: hexL data
end
section
open Go.RowKit
set_option maxRecDepth 100000
set_option maxHeartbeats 4000000
def strL (l:List UInt8):ByteArray:=⟨l.toArray⟩
theorem zqw (l:List UInt8):(strL l).size=l.length:=by simp[strL,ByteArray.size]
theorem zqx (a b:List UInt8):strL a ++ strL b=strL (a ++ b):= by
 apply ByteArray.ext
 simp[strL,ByteArray.data_append]
theorem zqy (l:List UInt8):(⟨#[]⟩:ByteArray) ++ (strL l ++ ⟨#[10]⟩)=strL (l ++ [10]):= by
 rw[show (⟨#[10]⟩:ByteArray)=strL [10] from rfl,zqx,show (⟨#[]⟩:ByteArray)=strL [] from rfl,zqx]
 rfl
end
section
open Go.RowKit
set_option maxRecDepth 100000
set_option maxHeartbeats 4000000
theorem zqz:(Tryz.prog.info? 62).map (·.size)=some 3:=by kernel_rfl
def frV (id:Int) (re:Bool) (A:Option Addr) (n c:Nat):Array Value:= #[.int .i64 id,.bool re,.slice A n c]
theorem zq0 {fn:Func} {p u:Tmp} (h:fn.results= #[.cell p 62,.tmp u]) {a:Act} {w:World} {g:Nat} {id:Int} {re:Bool} {A:Option Addr} {n c:Nat} {R:Ending→World→Prop} (hd:a.defers= []) (hp:a.tmps.getD p undef= .pointer (some ⟨g,0,none⟩))
 (hB:Blk w g 62 (frV id re A n c)) (hR:R (.returned (.tuple #[.agg (frV id re A n c),a.tmps.getD u undef])) w):bodyPost Tryz.prog fn R .ret a w:=by
 refine bodyPost_ret ?_ hd hR
 rw[results_cell_tmp h,hp]
 simp only[asAddr,Sem.run_pure,Result.andThen_ok]
 rw[run_loadVar_row w g _ _ _ _ _ hB Tryz.underlying62 rfl (show _=some (frV id re A n c).size from zqz)]
 rfl
def ParseR (id:Int) (d:List UInt8) (w:World) (e:Ending) (w':World):Prop:=
 ∃ A n c,e= .returned (.tuple #[.agg (frV id false A n c),.int .i64 0])∧ zdq w' w.heap.size A n c d∧Below w.heap.size w w'
theorem zq1 (idf:Int) (hid0:0≤idf∧idf≤2047) (s:ByteArray) (n:Nat) (r:ByteArray) (d:List UInt8) (hi:∀ w,Calls Tryz.prog 129 #[.string s] w fun e w'=>e= .returned (.tuple #[.int .i64 idf,.string r,.bool true])∧ Below w.heap.size w w') (hr:r.size=2 * n) (hn:n≤8) (hR:(r.toList == [82])=false) (hd:∀ i,i < r.size→hexD ((r.data.getD i 0).toNat)) (hdd:unhL r n=d) (w:World) :
 Calls Tryz.prog 67 #[.string s] w (ParseR idf d w):= by
 have HR:=zak hr
 have HI:=zak hi
 have HDD:=zak hdd
 have HHD:=zak hd
 have HI0:=zak hid0
 have hbw:=zc1 (Below.refl w.heap.size w) (.cells (frV 0 false none 0 0) 62)
 have q0:=zdb w 62 (frV 0 false none 0 0)
 have HB:=zak hbw
 have HQ:=zak q0
 clear hr hi hdd hd hid0 hbw q0
 unfold frV at HB HQ
 go_enter Tryz.func67,Tryz.ntmps67
 go_wp2_with fail
 refine (HI.out _).mono ?_
 rintro e w1 ⟨rfl,hb1⟩
 have HNE:=zak (show w.heap.size≠w1.heap.size by have:=(HQ.out.below hb1 HQ.out.lt).lt;omega)
 have HW1:=zak (show w.heap.size≤w1.heap.size from (zc0 hb1 HB.out).size)
 have HQ1:=zak (HQ.out.below hb1 HQ.out.lt)
 have HB1:=zak (zc0 hb1 HB.out)
 have q1:=zdb w1 62 (frV idf false none 0 0)
 have HB1b:=zak (zc1 HB1.out (.cells (frV idf false none 0 0) 62))
 have HQ1b:=zak (HQ1.out.below (zc1 (Below.refl _ _) (.cells (frV idf false none 0 0) 62)) HQ1.out.lt)
 have HQF:=zak q1
 unfold frV at HB1b HQ1b HQF q1
 clear hb1 HQ HB HB1 HQ1
 obtain⟨q1_c0,q1_c1,q1_c2⟩:= zc4 q1
 have q1_f:=q1.frozen
 go_wp2_with fail
 refine (zqq r n HR.out (by omega) HHD.out _).mono ?_
 rintro e w2 ⟨A,c,rfl,hO,hb2⟩
 have HO:=zak hO
 have HQ2:=zak (HQ1b.out.below hb2 HQ1b.out.lt)
 have HF2:=zak (HQF.out.below hb2 HQF.out.lt)
 have HB2:=zak (zc0 hb2 HB1b.out)
 have zf:w1.heap.size < w2.heap.size:=HF2.out.lt
 have zq:w.heap.size < w2.heap.size:=HQ2.out.lt
 have hne:w.heap.size≠w1.heap.size:=HNE.out
 clear q1_c0 q1_c1 q1_c2 q1_f
 have q2:=HF2.out
 obtain⟨q2_c0,q2_c1,q2_c2⟩:= zc4 q2
 have q2_f:=q2.frozen
 clear hO hb2 q1 HQ1b HB1b HQF hR
 go_wp2_with fail
 have HF3:Hid (Blk (w2.setCell ⟨w1.heap.size,2,none⟩ (.slice A n c)) w1.heap.size 62 (frV idf false A n c)):= zak (HF2.out.set_ 2 (.slice A n c))
 have HQ3:=zak (HQ2.out.far (p:=⟨w1.heap.size,2,none⟩) hne (.slice A n c))
 have HO3:=zak (HO.out.set_ (p:=⟨w1.heap.size,2,none⟩) (by simp) (.slice A n c))
 have HB3:=zak (zdw (zdv.of_set (F:=fun q=>q=w1.heap.size) (p:=⟨w1.heap.size,2,none⟩) rfl (.slice A n c)) HB2.out (fun i h=>by rw[h];exact HW1.out))
 clear HF2 HQ2 HO HB2 q2
 clear q2_c0 q2_c1 q2_c2 q2_f
 refine (zqv idf A n c _ HI0.out hn).mono ?_
 rintro e w4 ⟨rfl,hb4⟩
 have q4:=HF3.out.below hb4 HF3.out.lt
 have p4:=HQ3.out.below hb4 HQ3.out.lt
 have HO4:=zak (HO3.out.below hb4)
 have HB4:=zak (zc0 hb4 HB3.out)
 have HP4:=zak p4
 have z4:=q4.lt
 have y4:=p4.lt
 unfold frV at q4
 obtain⟨q4_c0,q4_c1,q4_c2⟩:= zc4 q4
 have q4_f:=q4.frozen
 obtain⟨p4_c0,p4_c1,p4_c2⟩:= zc4 p4
 have p4_f:=p4.frozen
 clear hb4 HF3 HQ3 HO3 HB3 q4 p4
 have HP5:Hid (Blk (((w4.setCell ⟨w.heap.size,0,none⟩ (.int .i64 idf)).setCell ⟨w.heap.size,1,none⟩ (.bool false)).setCell ⟨w.heap.size,2,none⟩ (.slice A n c)) w.heap.size 62 (frV idf false A n c)):= zak (((HP4.out.set_ 0 (.int .i64 idf)).set_ 1 (.bool false)).set_ 2 (.slice A n c))
 have HO5:=zak (((HO4.out.set_ (p:=⟨w.heap.size,0,none⟩) (by have:=HW1.out;simp;omega) (.int .i64 idf)).set_ (p:=⟨w.heap.size,1,none⟩) (by have:=HW1.out;simp;omega) (.bool false)).set_ (p:=⟨w.heap.size,2,none⟩) (by have:=HW1.out;simp;omega) (.slice A n c))
 have HB5:=zak (((((zdv.of_below HB4.out:zdv (fun q=>q=w.heap.size) w w4).setNew (g:=w.heap.size) (i:=0) (Nat.le_refl _) (.int .i64 idf)).setNew (g:=w.heap.size) (i:=1) (Nat.le_refl _) (.bool false)).setNew (g:=w.heap.size) (i:=2) (Nat.le_refl _) (.slice A n c)).below (Nat.le_refl _) (fun i h=>by omega))
 go_wp2_with fail
 refine zq0 (g:=w.heap.size) (id:=idf) (re:=false) (A:=A) (n:=n) (c:=c) rfl rfl rfl HP5.out ?_
 exact⟨A,n,c,rfl,by have:=HO5.out;rw[HDD.out] at this;exact this.mono (by have:=HW1.out;simp;omega),HB5.out⟩
def s585:ByteArray:=⟨#[53,56,53,35,54,48,49,55,49,48,48,48,48,48,48,48,48,48,48,48]⟩
end
end Go.Proofs.YthdbckbpldlkeaaGreat
