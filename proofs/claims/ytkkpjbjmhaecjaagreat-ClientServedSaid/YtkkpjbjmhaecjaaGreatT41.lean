/- None -/
import Derived.Test.YtkkpjbjmhaecjaaGreatT40
import Derived.Test.YtkkpjbjmhaecjaaGreatT39
import Derived.Test.YtkkpjbjmhaecjaaGreatRows
import Derived.ProofKit
import Derived.OpenShut
import Derived.ChangeOld
import Derived.Deep.Slices
import Derived.Deep.Fields
import Derived.Lib.SmallJoins
namespace Go.Proofs.YtkkpjbjmhaecjaaGreat
set_option linter.all false
set_option maxRecDepth 100000
set_option maxHeartbeats 16000000
section
open Go.RowKit
def strL (l:List UInt8):ByteArray:=⟨l.toArray⟩
theorem zv1 (l:List UInt8):(strL l).size=l.length:=by simp[strL,ByteArray.size]
theorem zv2 (a b:List UInt8):strL a ++ strL b=strL (a ++ b):=by
 apply ByteArray.ext;simp[strL,ByteArray.data_append]
theorem zv4 (l:List UInt8):(⟨#[]⟩:ByteArray) ++ (strL l ++ ⟨#[10]⟩)=strL (l ++ [10]):=by
 rw[show (⟨#[10]⟩:ByteArray)=strL [10] from rfl,zv2,show (⟨#[]⟩:ByteArray)=strL [] from rfl,zv2]
 rfl
theorem zv5 (A:Option Addr)(n c:Nat)(data:List UInt8)(w:World)(hn:n=data.length)(h8:n≤8)(hs:Sl w A (data.map bv)) :
 Calls Tryz.prog 127 #[.agg #[.int .i64 1541,.bool false,.slice A n c]] w fun e w'=>e= .returned (.tuple #[.string (strL (54 :: 48 :: 53 :: 35 :: hexL data)),.int .i64 0])∧ Below w.heap.size w w':=by
 have q:=zdg w 69 #[.int .i64 1541,.bool false,.slice A n c];have HB:=zak (zc5 (Below.refl w.heap.size w) (.cells #[.int .i64 1541,.bool false,.slice A n c] 69));have HQ:=zak q;have HS:=zak hs;have HN:=zak hn;clear hs hn;obtain⟨cI,cJ,cK⟩:=zc8 q;have ei:=q.frozen;go_enter Tryz.func127,Tryz.ntmps127
 go_wp2_with fail
 refine (zv0 1541 A n c _ ⟨by omega,by omega⟩ h8).mono ?_;rintro e w1 ⟨rfl,hb1⟩;have HQ1:=zak (HQ.out.below hb1 HQ.out.lt);have HB1:=zak (zc4 hb1 HB.out);clear cI cJ cK ei;have q1:=HQ1.out;obtain⟨cF,cG,cH⟩:=zc8 q1;have dh:=q1.frozen;have HSB:=zak (Blk.new w1 5 #[.int .u8 6,.int .u8 5]);clear hb1 q HQ;go_wp2_with fail
 refine (zvz (some ⟨w1.heap.size,0,none⟩) 2 2 [6,5] _ rfl (by omega) HSB.out.sl).mono ?_;rintro e w2 ⟨rfl,hb2⟩;rw[show (⟨(hexL [6,5]).toArray⟩:ByteArray)=⟨#[48,54,48,53]⟩ by decide];have hb2':=zc4 hb2 (zc5 (Below.refl _ w1) (.cells #[.int .u8 6,.int .u8 5] 5));have q2:=HQ1.out.below hb2' HQ1.out.lt;have HB2:=zak (zc4 hb2' HB1.out);clear cF cG cH dh;obtain⟨di,dj,dm⟩:=zc8 q2;have el:=q2.frozen;have zq:=q2.lt;have HS2:=zak (HS.out.below HB2.out);clear hb2 hb2' q1 HSB HB1 HQ1;go_upto_region 7 with fail
 obtain⟨hx,hhx⟩:∃hx,hx=strL (hexL data):=⟨_,rfl⟩;have hxs:hx.size=2 * n:=by rw[hhx,zv1,zvx,←HN.out]
 have HHX:=zak hhx;have hcat: ¬(9223372036854775807 < 4+2 * n):=by omega
 clear hhx;refine wp_region_held_drew (S:=(fun w'=>(∀qA:Addr,qA.block < (w2).heap.size→w'.cell? qA=(w2).cell? qA)∧ Below (w2).heap.size (w2) w')) (by kernel_rfl) ?hS1 (fun hHeld=>?rest1)
 case hS1=>exact kSn
 case' rest1=>skip
 iterate 5 (refine tkN ?_;try simp only[PqL,Act.put])
 refine kRd 5 (fun K hK=>?_)
 go_simp
 refine (zvz A n c data _ HN.out (by omega) (HS2.out.below kBl)).mono ?_;rw[show (⟨(hexL data).toArray⟩:ByteArray)=hx from HHX.out.symm];rintro e w3 ⟨rfl,hb3⟩;refine hK.out _ _ ?hS9 (fun hHeld=>?rest9)
 case hS9=>exact kSn
 case' rest9=>(clear hK K;try simp only[PqL,Act.put])
 refine tkH 6 ?_;try simp only[PqL,Act.put]
 refine tkH 7 ?_;try simp only[PqL,Act.put]
 refine tkH 8 ?_;try simp only[PqL,Act.put]
 refine wpAnyH_done (by kernel_rfl) ?_ _;have hEnd:=hHeld.2
 repeat (clear hHeld)
 go_wp2_with fail
 go_ret2
 refine⟨?_,zc4 hEnd HB2.out⟩;have e:(⟨#[48,54,48,53]⟩:ByteArray).extract 1 4 ++ ⟨#[35]⟩=strL [54,48,53,35]:=by decide
 have e2:strL (54 :: 48 :: 53 :: 35 :: hexL data)=strL [54,48,53,35] ++ strL (hexL data):=by rw[zv2];rfl
 show Ending.returned (.tuple #[.string ((⟨#[48,54,48,53]⟩:ByteArray).extract 1 4 ++ ⟨#[35]⟩ ++ hx),.int .i64 0])=_;rw[e2,e,HHX.out]
theorem zv6 (g c:Nat)(A:Option Addr)(n cc:Nat)(data:List UInt8)(w:World)(hB:Sl w (some ⟨g,0,none⟩) [.int .i64 1541,.bool false,.slice A n cc])(hn:n=data.length)(h8:n≤8)(hs:Sl w A (data.map bv)) :
 Calls Tryz.prog 61 #[.slice (some ⟨g,0,none⟩) 1 c] w fun e w'=>e= .returned (.tuple #[.string (strL (54 :: 48 :: 53 :: 35 :: (hexL data ++ [10]))),.int .i64 0])∧ Below w.heap.size w w':=by
 have c0:w.cell? ⟨g,0,none⟩=some (.int .i64 1541):=by obtain⟨b,o,hA,hc⟩:=hB.at_ (j:=0) rfl;injection hA with hA;injection hA with h1 h2;subst h1;subst h2;exact hc
 have c1:w.cell? ⟨g,1,none⟩=some (.bool false):=by obtain⟨b,o,hA,hc⟩:=hB.at_ (j:=1) rfl;injection hA with hA;injection hA with h1 h2;subst h1;subst h2;exact hc
 have c2:w.cell? ⟨g,2,none⟩=some (.slice A n cc):=by obtain⟨b,o,hA,hc⟩:=hB.at_ (j:=2) rfl;injection hA with hA;injection hA with h1 h2;subst h1;subst h2;exact hc
 have zg:g < w.heap.size:=zal c0;have HB:=zak (zc5 (Below.refl w.heap.size w) (.cells #[.int .i64 1541,.bool false,.slice A n cc] 69));have q:=zdg w 69 #[.int .i64 1541,.bool false,.slice A n cc];have HS:=zak (hs.alloc (.cells #[.int .i64 1541,.bool false,.slice A n cc] 69));have HN:=zak hn;clear hB hs hn;go_enter Tryz.func61,Tryz.ntmps61
 go_wp2_with fail
 refine wp_loop_rounds 2 ?_;rw[rounds_succ];obtain⟨cI,cJ,cK⟩:=zc8 q;have ei:=q.frozen;go_wp2_with fail
 refine (zv5 A n cc data _ HN.out h8 HS.out).mono ?_;rintro e w2 ⟨rfl,hb2⟩;have HB2:=zak (zc4 hb2 HB.out);obtain⟨sx,hsx⟩:∃sx,sx=strL (54 :: 48 :: 53 :: 35 :: hexL data):=⟨_,rfl⟩;have hxs:sx.size=4+2 * n:=by rw[hsx,zv1];simp only[List.length_cons,zvx,←HN.out];omega
 have HSX:=zak hsx;have hcat: ¬(9223372036854775807 < 4+2 * n+1):=by omega
 rw[←hsx];clear hb2 hsx;go_wp2_with fail
 rw[rounds_succ];go_wp2_with fail
 go_ret2
 refine⟨?_,HB2.out⟩;show Ending.returned (.tuple #[.string (⟨#[]⟩ ++ (sx ++ ⟨#[10]⟩)),.int .i64 0])=_;rw[HSX.out,zv4]
 rfl
end
section
open Go.RowKit
theorem zv7:(Tryz.prog.info? 69).map (·.size)=some 3:=by kernel_rfl
def frV (id:Int) (re:Bool) (A:Option Addr) (n c:Nat):Array Value:=#[.int .i64 id,.bool re,.slice A n c]
theorem zv8 {fn:Func}{p u:Tmp}(h:fn.results= #[.cell p 69,.tmp u]){a:Act}{w:World}{g:Nat}{id:Int}{re:Bool}{A:Option Addr}{n c:Nat}{R:Ending→World→Prop}(hd:a.defers= [])(hp:a.tmps.getD p undef= .pointer (some ⟨g,0,none⟩))
 (hB:Blk w g 69 (frV id re A n c)) (hR:R (.returned (.tuple #[.agg (frV id re A n c),a.tmps.getD u undef])) w):bodyPost Tryz.prog fn R .ret a w:=by
 refine bodyPost_ret ?_ hd hR;rw[results_cell_tmp h,hp];simp only[asAddr,Sem.run_pure,Result.andThen_ok];rw[run_loadVar_row w g _ _ _ _ _ hB Tryz.underlying69 rfl (show _=some (frV id re A n c).size from zv7)]
 rfl
def ParseR (id:Int) (d:List UInt8) (w:World) (e:Ending) (w':World):Prop:=
 ∃A n c,e= .returned (.tuple #[.agg (frV id false A n c),.int .i64 0])∧ zdv w' w.heap.size A n c d∧Below w.heap.size w w'
theorem zv9 (idf:Int)(hid0:0≤idf∧idf≤2047)(s:ByteArray)(n:Nat)(r:ByteArray)(d:List UInt8)(hi:∀w,Calls Tryz.prog 120 #[.string s] w fun e w'=>e= .returned (.tuple #[.int .i64 idf,.string r,.bool true])∧ Below w.heap.size w w')(hr:r.size=2 * n)(hn:n≤8)(hR:(r.toList == [82])=false)(hd:∀i,i < r.size→hexD ((r.data.getD i 0).toNat))(hdd:unhL r n=d)(w:World) :
 Calls Tryz.prog 59 #[.string s] w (ParseR idf d w):=by
 have HR:=zak hr;have HI:=zak hi;have HDD:=zak hdd;have HHD:=zak hd;have HI0:=zak hid0;have hbw:=zc5 (Below.refl w.heap.size w) (.cells (frV 0 false none 0 0) 69);have q0:=zdg w 69 (frV 0 false none 0 0);have HB:=zak hbw;have HQ:=zak q0;clear hr hi hdd hd hid0 hbw q0;unfold frV at HB HQ;go_enter Tryz.func59,Tryz.ntmps59
 go_wp2_with fail
 refine (HI.out _).mono ?_;rintro e w1 ⟨rfl,hb1⟩;have HNE:=zak (show w.heap.size≠w1.heap.size by have:=(HQ.out.below hb1 HQ.out.lt).lt;omega);have HW1:=zak (show w.heap.size≤w1.heap.size from (zc4 hb1 HB.out).size);have HQ1:=zak (HQ.out.below hb1 HQ.out.lt);have HB1:=zak (zc4 hb1 HB.out);have q1:=zdg w1 69 (frV idf false none 0 0);have HB1b:=zak (zc5 HB1.out (.cells (frV idf false none 0 0) 69));have HQ1b:=zak (HQ1.out.below (zc5 (Below.refl _ _) (.cells (frV idf false none 0 0) 69)) HQ1.out.lt);have HQF:=zak q1;unfold frV at HB1b HQ1b HQF q1;clear hb1 HQ HB HB1 HQ1;obtain⟨cF,cG,cH⟩:=zc8 q1;have dh:=q1.frozen
 go_wp2_with fail
 refine (zvu r n HR.out (by omega) HHD.out _).mono ?_;rintro e w2 ⟨A,c,rfl,hO,hb2⟩;have HO:=zak hO;have HQ2:=zak (HQ1b.out.below hb2 HQ1b.out.lt);have HF2:=zak (HQF.out.below hb2 HQF.out.lt);have HB2:=zak (zc4 hb2 HB1b.out);have zf:w1.heap.size < w2.heap.size:=HF2.out.lt;have zq:w.heap.size < w2.heap.size:=HQ2.out.lt;have hne:w.heap.size≠w1.heap.size:=HNE.out;clear cF cG cH dh;have q2:=HF2.out;obtain⟨di,dj,dm⟩:=zc8 q2;have el:=q2.frozen;clear hO hb2 q1 HQ1b HB1b HQF hR;go_wp2_with fail
 have HF3:Hid (Blk (w2.setCell ⟨w1.heap.size,2,none⟩ (.slice A n c)) w1.heap.size 69 (frV idf false A n c)):=zak (HF2.out.set_ 2 (.slice A n c));have HQ3:=zak (HQ2.out.far (p:=⟨w1.heap.size,2,none⟩) hne (.slice A n c));have HO3:=zak (HO.out.set_ (p:=⟨w1.heap.size,2,none⟩) (by simp) (.slice A n c));have HB3:=zak (zd1 (zd0.of_set (F:=fun q=>q=w1.heap.size) (p:=⟨w1.heap.size,2,none⟩) rfl (.slice A n c)) HB2.out (fun i h=>by rw[h];exact HW1.out));clear HF2 HQ2 HO HB2 q2;clear di dj dm el;refine (zv0 idf A n c _ HI0.out hn).mono ?_;rintro e w4 ⟨rfl,hb4⟩;have q4:=HF3.out.below hb4 HF3.out.lt;have p4:=HQ3.out.below hb4 HQ3.out.lt
 have HO4:=zak (HO3.out.below hb4);have HB4:=zak (zc4 hb4 HB3.out);have HP4:=zak p4;have z4:=q4.lt;have y4:=p4.lt;unfold frV at q4;obtain⟨dD,dE,dF⟩:=zc8 q4;have ey:=q4.frozen;obtain⟨mZ,na,nc⟩:=zc8 p4;have nJ:=p4.frozen;clear hb4 HF3 HQ3 HO3 HB3 q4 p4;have HP5:Hid (Blk (((w4.setCell ⟨w.heap.size,0,none⟩ (.int .i64 idf)).setCell ⟨w.heap.size,1,none⟩ (.bool false)).setCell ⟨w.heap.size,2,none⟩ (.slice A n c)) w.heap.size 69 (frV idf false A n c)):=zak (((HP4.out.set_ 0 (.int .i64 idf)).set_ 1 (.bool false)).set_ 2 (.slice A n c));have HO5:=zak (((HO4.out.set_ (p:=⟨w.heap.size,0,none⟩) (by have:=HW1.out;simp;omega) (.int .i64 idf)).set_ (p:=⟨w.heap.size,1,none⟩) (by have:=HW1.out;simp;omega) (.bool false)).set_ (p:=⟨w.heap.size,2,none⟩) (by have:=HW1.out;simp;omega) (.slice A n c))
 have HB5:=zak (((((zd0.of_below HB4.out:zd0 (fun q=>q=w.heap.size) w w4).setNew (g:=w.heap.size) (i:=0) (Nat.le_refl _) (.int .i64 idf)).setNew (g:=w.heap.size) (i:=1) (Nat.le_refl _) (.bool false)).setNew (g:=w.heap.size) (i:=2) (Nat.le_refl _) (.slice A n c)).below (Nat.le_refl _) (fun i h=>by omega));go_wp2_with fail
 refine zv8 (g:=w.heap.size) (id:=idf) (re:=false) (A:=A) (n:=n) (c:=c) rfl rfl rfl HP5.out ?_;exact⟨A,n,c,rfl,by have:=HO5.out;rw[HDD.out] at this;exact this.mono (by have:=HW1.out;simp;omega),HB5.out⟩
def s585:ByteArray:=⟨#[53,56,53,35,54,48,49,55,49,48,48,48,48,48,48,48,48,48,48,48]⟩
theorem zwa (w:World):Calls Tryz.prog 59 #[.string ⟨#[53,56,53,35,54,48,49,55,49,48,48,48,48,48,48,48,48,48,48,48]⟩] w (ParseR 1413 [96,23,16,0,0,0,0,0] w):=
 zv9 1413 (by omega) s585 8 ⟨#[54,48,49,55,49,48,48,48,48,48,48,48,48,48,48,48]⟩ _ (fun w=>(zvv s585 (by decide) (by decide) (by decide) (by decide) (by decide) w).mono (fun e w' h=>⟨by rw[h.1];rfl,h.2⟩)) (by decide) (by omega) (by decide +kernel) (by decide +kernel) (by decide +kernel) w
end
section
open Go.RowKit
set_option maxHeartbeats 4000000
end
section
open Go.RowKit Go.Maps
set_option maxHeartbeats 8000000
end
section
open Go.RowKit Go.ChangeShapes Go.WideShapes Go.Deep
theorem zwb:Tryz.prog.cellsOf 5=1:=by kernel_rfl
theorem zwc (zs:List Int)(k:Nat)(hz:∀n ∈ zs,(Lit.int .u8 n).wf=true):∃l:List UInt8,l.length=(zs.take k).length∧ ∀i,i < l.length→ ∃c,l[i]? =some c∧zs.getD i 0=(c.toNat:Int):=by
 refine⟨(zs.take k).map fun n=>UInt8.ofNat n.toNat,by simp,?_⟩;intro i hi;simp at hi;have hlt:i < zs.length:=by omega
 refine⟨UInt8.ofNat (zs[i]).toNat,?_,?_⟩
 · rw[List.getElem?_map,List.getElem?_take,if_pos (by omega),List.getElem?_eq_getElem hlt];rfl
 · have hw:=hz _ (List.getElem_mem hlt);have hb:0≤zs[i]∧ zs[i]≤ 255:=by simpa [Lit.wf,IntKind.min,IntKind.max,IntKind.signed,IntKind.bits] using hw
   rw[List.getD_eq_getElem?_getD,List.getElem?_eq_getElem hlt];simp only[Option.getD_some,UInt8.toNat_ofNat'];omega
theorem zwd {α:Type}(n:Nat)(Q:Nat→α→Prop)(h:∀i,i < n→ ∃a,Q i a):∃L:List α,L.length=n∧ ∀i a,L[i]? =some a→Q i a:=by
 induction n with
 | zero=>exact⟨[],rfl,by intro i a h;simp at h⟩
 | succ n ih=>
   obtain⟨L,hL,hQ⟩:=ih fun i hi=>h i (by omega)
   obtain⟨a,ha⟩:=h n (by omega);refine⟨L ++ [a],by simp[hL],?_⟩;intro i b hb;rcases Nat.lt_or_ge i n with hi | hi
   · rw[List.getElem?_append_left (by omega)] at hb;exact hQ i b hb
   · have:i < (L ++ [a]).length:=(List.getElem?_eq_some_iff.1 hb).1
     simp[hL] at this;obtain rfl:i=n:=by omega
     rw[List.getElem?_append_right (by omega),hL] at hb;simp at hb;subst hb;exact ha
section
variable {H:Type} {enc:TypeId×Value→H} {w:World} {base:Nat} {spare:Nat→Bool} {held:Bool}
theorem zwe {fuel:Nat}{v:Value}{x:DataW H×List MemPlace}(h:DataW.trod enc Tryz.prog w base spare held fuel 27 [v]=some x) :
 ∃(A:Option Addr) (c:Nat) (l:List UInt8),v= .slice A l.length c∧l.length≤c∧Sl w A (l.map bv):=by
 rcases open_ints Tryz.underlying27 Tryz.underlying5 zwb h with ⟨hcs,_⟩ | ⟨a,len,cap,zs,hcs,_,hl,hm,hz,_,hcell,hwz⟩
 · simp at hcs;exact⟨none,0,[],hcs,Nat.le_refl _,Sl.nil _ _⟩
 · simp at hcs;obtain⟨l,hll,hg⟩:=zwc zs len hwz;have hlz:len≤zs.length:=by rw[hz];split<;>omega
   have hlen:l.length=len:=by rw[hll,List.length_take];omega
   refine⟨some a,cap,l,by rw[hlen];exact hcs,by omega,?_⟩
   · intro j u hu;have hj:j < l.length:=by have:=(List.getElem?_eq_some_iff.1 hu).1;simpa using this
     obtain⟨c,hc,hzc⟩:=hg j hj;refine⟨a,rfl,?_⟩;rw[hcell j (by omega),hzc];rw[List.getElem?_map,hc] at hu
     simpa [bv] using hu
end
end
section
section
open Go.RowKit
end
section
open Go.RowKit Go.ChangeShapes Go.WideShapes Go.Deep Go.Joins
theorem zwf {n:Int}(h:(Lit.int .u8 n).wf=true):∃m:Nat,n=(m:Nat)∧ m≤255:=by
 have hb:0≤n∧n≤255:=by simpa [Lit.wf,IntKind.min,IntKind.max,IntKind.signed,IntKind.bits] using h
 exact⟨n.toNat,by omega,by omega⟩
section
variable {H:Type} {enc:TypeId×Value→H} {w:World} {base:Nat} {spare:Nat→Bool} {held:Bool}
end
end
end
section
open Go.RowKit
set_option maxHeartbeats 8000000
end
section
open Go.RowKit Go.ChangeShapes Go.WideShapes Go.Deep Go.Joins
theorem zwg:Tryz.prog.cellsOf 90=11:=by kernel_rfl
section
variable {H:Type} {enc:TypeId×Value→H} {w:World} {base:Nat} {spare:Nat→Bool} {held:Bool}
theorem zwh {fuel:Nat}{v:Value}{x:DataW H×List MemPlace}(h:DataW.trod enc Tryz.prog w base spare held fuel 22 [v]=some x) :
 ∃(A:Option Addr) (n c:Nat) (L:List Ent),v= .slice A n c∧n=L.length∧n≤c∧SlE w A L:=by
 rcases open_slice Tryz.underlying22 h with ⟨hcs,_⟩ | ⟨a,len,cap,m,n,D,Pl,hcs,_,hl,hm,hmm,_,hi⟩
 · simp at hcs;exact⟨none,0,0,[],hcs,rfl,Nat.le_refl _,by intro j v hv;simp at hv⟩
 · simp at hcs;have hlm:len≤m:=by rw[hmm];split<;>omega
   obtain⟨L,hL,hQ⟩:=zwd len (fun i (E:Ent)=> ∃Aj cj,w.cell? (a.add (i * 11))=some (.int .i64 E.ix)∧ w.cell? ((a.add (i * 11)).add 1)=some (.int .i64 E.sub)∧ w.cell? ((a.add (i * 11)).add 2)=some (.string E.nm)∧ w.cell? ((a.add (i * 11)).add 3)=some (.int .i64 E.ty)∧ w.cell? ((a.add (i * 11)).add 4)=some (.int .i64 E.acc)∧ w.cell? ((a.add (i * 11)).add 5)=some (.bool E.mp)∧ w.cell? ((a.add (i * 11)).add 6)=some (.bool E.st)∧ w.cell? ((a.add (i * 11)).add 7)=some (.int .i64 E.mx)∧ w.cell? ((a.add (i * 11)).add 8)=some (.int .i64 E.lo)∧ w.cell? ((a.add (i * 11)).add 9)=some (.int .i64 E.hi)∧ w.cell? ((a.add (i * 11)).add 10)=some (.slice Aj E.df.length cj)∧ E.df.length≤cj∧Sl w Aj (E.df.map bv)) (by
    intro i hilen;obtain⟨cs',hc,ht⟩:=hi i (by omega);rw[zwg] at hc;obtain⟨_,hcl,hat⟩:=World.cells?_some hc;obtain⟨ys,k,_,_,_,_,hf⟩:=DataW.trod_struct Tryz.underlying90 ht
    match cs',hcl with
    | [v0,v1,v2,v3,v4,v5,v6,v7,v8,v9,v10],_=>
      have f0:DataW.trod enc Tryz.prog w base spare held k 3 ((([v0,v1,v2,v3,v4,v5,v6,v7,v8,v9,v10]:List Value).drop 0).take (Tryz.prog.cellsOf 3))=ys[0]? :=hf 0 _ rfl;have f1:DataW.trod enc Tryz.prog w base spare held k 3 ((([v0,v1,v2,v3,v4,v5,v6,v7,v8,v9,v10]:List Value).drop 1).take (Tryz.prog.cellsOf 3))=ys[1]? :=hf 1 _ rfl;have f2:DataW.trod enc Tryz.prog w base spare held k 9 ((([v0,v1,v2,v3,v4,v5,v6,v7,v8,v9,v10]:List Value).drop 2).take (Tryz.prog.cellsOf 9))=ys[2]? :=hf 2 _ rfl;have f3:DataW.trod enc Tryz.prog w base spare held k 3 ((([v0,v1,v2,v3,v4,v5,v6,v7,v8,v9,v10]:List Value).drop 3).take (Tryz.prog.cellsOf 3))=ys[3]? :=hf 3 _ rfl
      have f4:DataW.trod enc Tryz.prog w base spare held k 3 ((([v0,v1,v2,v3,v4,v5,v6,v7,v8,v9,v10]:List Value).drop 4).take (Tryz.prog.cellsOf 3))=ys[4]? :=hf 4 _ rfl;have f5:DataW.trod enc Tryz.prog w base spare held k 4 ((([v0,v1,v2,v3,v4,v5,v6,v7,v8,v9,v10]:List Value).drop 5).take (Tryz.prog.cellsOf 4))=ys[5]? :=hf 5 _ rfl;have f6:DataW.trod enc Tryz.prog w base spare held k 4 ((([v0,v1,v2,v3,v4,v5,v6,v7,v8,v9,v10]:List Value).drop 6).take (Tryz.prog.cellsOf 4))=ys[6]? :=hf 6 _ rfl;have f7:DataW.trod enc Tryz.prog w base spare held k 3 ((([v0,v1,v2,v3,v4,v5,v6,v7,v8,v9,v10]:List Value).drop 7).take (Tryz.prog.cellsOf 3))=ys[7]? :=hf 7 _ rfl
      have f8:DataW.trod enc Tryz.prog w base spare held k 2 ((([v0,v1,v2,v3,v4,v5,v6,v7,v8,v9,v10]:List Value).drop 8).take (Tryz.prog.cellsOf 2))=ys[8]? :=hf 8 _ rfl;have f9:DataW.trod enc Tryz.prog w base spare held k 2 ((([v0,v1,v2,v3,v4,v5,v6,v7,v8,v9,v10]:List Value).drop 9).take (Tryz.prog.cellsOf 2))=ys[9]? :=hf 9 _ rfl;have f10:DataW.trod enc Tryz.prog w base spare held k 27 ((([v0,v1,v2,v3,v4,v5,v6,v7,v8,v9,v10]:List Value).drop 10).take (Tryz.prog.cellsOf 27))=ys[10]? :=hf 10 _ rfl;rw[show Tryz.prog.cellsOf 4=1 by kernel_rfl] at f5 f6;rw[show Tryz.prog.cellsOf 27=1 by kernel_rfl] at f10
      rw[show Tryz.prog.cellsOf 3=1 by kernel_rfl] at f0 f1 f3 f4 f7;rw[show Tryz.prog.cellsOf 2=1 by kernel_rfl] at f8 f9;rw[show Tryz.prog.cellsOf 9=1 by kernel_rfl] at f2;simp only[List.drop_zero,List.take_succ_cons,List.take_zero,List.drop_succ_cons] at f0 f1 f2 f3 f4 f5 f6 f7 f8 f9 f10;have hy:ys.length=11:=by assumption
      rw[List.getElem?_eq_getElem (show 0 < ys.length by omega)] at f0;rw[List.getElem?_eq_getElem (show 1 < ys.length by omega)] at f1;rw[List.getElem?_eq_getElem (show 2 < ys.length by omega)] at f2;rw[List.getElem?_eq_getElem (show 3 < ys.length by omega)] at f3;rw[List.getElem?_eq_getElem (show 4 < ys.length by omega)] at f4;rw[List.getElem?_eq_getElem (show 5 < ys.length by omega)] at f5;rw[List.getElem?_eq_getElem (show 6 < ys.length by omega)] at f6;rw[List.getElem?_eq_getElem (show 7 < ys.length by omega)] at f7;rw[List.getElem?_eq_getElem (show 8 < ys.length by omega)] at f8;rw[List.getElem?_eq_getElem (show 9 < ys.length by omega)] at f9
      rw[List.getElem?_eq_getElem (show 10 < ys.length by omega)] at f10;obtain⟨x0,h0,_,_⟩:=DataW.trod_int Tryz.underlying3 f0;obtain⟨x1,h1,_,_⟩:=DataW.trod_int Tryz.underlying3 f1;obtain⟨x2,h2,_⟩:=DataW.trod_string Tryz.underlying9 f2;obtain⟨x3,h3,_,_⟩:=DataW.trod_int Tryz.underlying3 f3;obtain⟨x4,h4,_,_⟩:=DataW.trod_int Tryz.underlying3 f4;obtain⟨x5,h5,_⟩:=DataW.trod_bool Tryz.underlying4 f5;obtain⟨x6,h6,_⟩:=DataW.trod_bool Tryz.underlying4 f6;obtain⟨x7,h7,_,_⟩:=DataW.trod_int Tryz.underlying3 f7;obtain⟨x8,h8,_,_⟩:=DataW.trod_int Tryz.underlying2 f8;obtain⟨x9,h9,_,_⟩:=DataW.trod_int Tryz.underlying2 f9
      obtain⟨Aj,cj,data,h10,hA1,hA2⟩:=zwe f10;simp only[List.cons.injEq,and_true] at h0 h1 h2 h3 h4 h5 h6 h7 h8 h9;subst h0;subst h1;subst h2;subst h3;subst h4;subst h5;subst h6;subst h7;subst h8;subst h9;subst h10;have a0:=hat 0 (by omega);have a1:=hat 1 (by omega);have a2:=hat 2 (by omega);have a3:=hat 3 (by omega);have a4:=hat 4 (by omega);have a5:=hat 5 (by omega);have a6:=hat 6 (by omega);have a7:=hat 7 (by omega);have a8:=hat 8 (by omega);have a9:=hat 9 (by omega);have a10:=hat 10 (by omega);refine⟨⟨x0,x1,x2,x3,x4,x5,x6,x7,x8,x9,data⟩,Aj,cj,?_,a1,a2,a3,a4,a5,a6,a7,a8,a9,a10,hA1,hA2⟩
      simpa [Addr.add] using a0)
   refine⟨some a,len,cap,L,hcs,hL.symm,hl,?_⟩;intro j E hE;obtain⟨Aj,cj,q0,q1,q2,q3,q4,q5,q6,q7,q8,q9,q10,hx1,hx2⟩:=hQ j E hE;rw[zam] at q1 q2 q3 q4 q5 q6 q7 q8 q9 q10;obtain⟨b,off,spot⟩:=a;obtain⟨v0,hv0⟩:∃v0,L[0]? =some v0:=⟨L[0]'(by have:=(List.getElem?_eq_some_iff.1 hE).1;omega),List.getElem?_eq_getElem _⟩;obtain⟨_,_,g0,_⟩:=hQ 0 v0 hv0
   have:spot=none:=by
    have:=World.cell?_spot g0
    simpa [Addr.add] using this
   subst this;exact⟨b,off,Aj,cj,rfl,⟨by simpa [Addr.add_lit] using q0,by simpa [Addr.add_lit,Nat.add_assoc] using q1,by simpa [Addr.add_lit,Nat.add_assoc] using q2,by simpa [Addr.add_lit,Nat.add_assoc] using q3,by simpa [Addr.add_lit,Nat.add_assoc] using q4,by simpa [Addr.add_lit,Nat.add_assoc] using q5,by simpa [Addr.add_lit,Nat.add_assoc] using q6,by simpa [Addr.add_lit,Nat.add_assoc] using q7,by simpa [Addr.add_lit,Nat.add_assoc] using q8,by simpa [Addr.add_lit,Nat.add_assoc] using q9,by simpa [Addr.add_lit,Nat.add_assoc] using q10⟩,hx1,hx2⟩
end
end
section
open Go.RowKit Go.Maps
theorem zwi {L:List Ent}{V:List (List UInt8)}{X:SdoS}{f:Frm}(hW:SdWf X):(sdRO L V X f).ms.length≤1000:=by
 unfold sdRO;split
 · split
   · show (sdAbL X _).length≤1000;rw[zo8]
     decide
   · exact zpq hW.bk (zog _ _)
 · exact Nat.zero_le _
section
variable {N p ps pb pd:Nat} {L:List Ent} {F G Z:Nat→Prop} {V:List (List UInt8)} {X:SdoS} {W W':World}
theorem SKM.far (h:SKM N p ps pb pd L F G V X W)(ho:zd0 Z W W')(hZ:∀q,Z q→q < W.heap.size→q≠p∧q≠ps∧q≠pb∧ ¬F q∧ ¬G q):SKM N p ps pb pd L F G V X W':=by
 have hz:=ho.size
 exact { h with
  db:=h.db.keep (fun g hg hl=>ho.block g hl (fun hf=>(hZ g hf hl).2.2.2.1 hg))
  dv:=(h.dv.keep (fun q hq hl=>ho.block q hl (fun hf=>by
   obtain⟨b1,b2,b3,_,b5⟩:=hZ q hf hl;rcases hq with hq | hq | hq | hq
   · exact b1 hq
   · exact b2 hq
   · exact b3 hq
   · exact b5 hq)) hz).mono (fun q _ hq=>hq.1) h.dv.ng
  lF:=fun g hg=>⟨(h.lF g hg).1,Nat.lt_of_lt_of_le (h.lF g hg).2 hz⟩
  lG:=fun g hg=>⟨Nat.lt_of_lt_of_le (h.lG g hg).1 hz,(h.lG g hg).2⟩ }
end
theorem zwj {L:List Ent}{ix sub:Int}{b:List UInt8}:∃k:Nat,mayC L ix sub b false=(k:Int)∧ k≤4294967295:=by
 have h:0≤mayC L ix sub b false∧mayC L ix sub b false≤4294967295:=by
  unfold mayC valC valueE writeE codeL
  (repeat' split)<;> omega
 exact⟨(mayC L ix sub b false).toNat,by omega,by omega⟩
end
section
open Go.RowKit Go.Maps
def EOk (S:CliS) (R:CR):Prop:=R.E.cr=S.ec∧R.E.sz=S.es∧R.E.size=S.en∧S.en≤4294967295
def CV_ (w:World) (G:Nat→Prop) (p m:Nat) (S:CliS):Prop:=
 ∃R:CR,Blk w p 158 (cliL S m R).toArray∧WM w m S.wk∧EOk S R∧(S.wk≠0→zdv w 0 R.A R.n R.c S.b∧FIn G R.A)∧ R.n2=S.data.length∧(S.data≠ []→ zdv w 0 R.A2 R.n2 R.c2 S.data∧FIn G R.A2)
def zw3 (w:World) (G:Nat→Prop) (p m:Nat) (S':CliS) (L:List Frm) (e:Ending) (w':World):Prop:=
 ∃N As ns cs ds,e= .returned (.slice As ns cs)∧ zg3 w' (fun g=>N≤g) As ns cs L ds∧w.heap.size≤N∧CV_ w' (fun g=>(G g∨w.heap.size≤g)∧ g < N) p m S'∧zd0 (fun q=>q=p∨q=m∨G q) w w'
theorem CV_.cm {w:World}{G:Nat→Prop}{p m:Nat}{S:CliS}(h:CV_ w G p m S):∃R:CR,CM w G p m S.wk (cliL S m R) [] [] w∧EOk S R∧R.n2=S.data.length:=by
 obtain⟨R,hB,hm,hE,_,hn,_⟩:=h;exact⟨R,⟨hB,hm,zd0.refl _ _,by simp,by simp⟩,hE,hn⟩
theorem CV_.cm1 {w:World}{G:Nat→Prop}{p m:Nat}{S:CliS}(h:CV_ w G p m S)(h0:S.wk≠0):∃R:CR,CM w G p m S.wk (cliL S m R) [] [⟨R.A,R.n,R.c,S.b⟩] w∧EOk S R∧R.n2=S.data.length:=by
 obtain⟨R,hB,hm,hE,hb,hn,_⟩:=h;refine⟨R,⟨hB,hm,zd0.refl _ _,by simp,?_⟩,hE,hn⟩;intro r hr;simp at hr;subst hr;exact⟨(hb h0).1,(hb h0).2.mono (fun g h=> .inl h)⟩
section
variable {w0 W W':World} {G:Nat→Prop} {p m:Nat} {wk:Int} {ks:List KB} {rs:List RB} {S:CliS} {R:CR}
theorem zwl {N:Nat}(h:CM w0 G p m S.wk (cliL S m R) ks rs W)(hE:EOk S R)(hb:S.wk≠0→⟨R.A,R.n,R.c,S.b⟩ ∈ rs)(hn:R.n2=S.data.length)(hd:S.data≠ []→ ⟨R.A2,R.n2,R.c2,S.data⟩ ∈ rs)(hN:W.heap.size≤N) :
 CV_ W (fun g=>(G g∨w0.heap.size≤g)∧ g < N) p m S:=by
 have k:∀r ∈ rs,zdv W 0 r.A r.n r.c r.l∧FIn (fun g=>(G g∨w0.heap.size≤g)∧ g < N) r.A:=fun r hr=>⟨(h.rows r hr).1,fun g hg=>⟨(h.rows r hr).2 g hg,Nat.lt_of_lt_of_le ((h.rows r hr).1.own.fin g hg).2 hN⟩⟩
 exact⟨R,h.blk,h.wm,hE,fun h0=>k _ (hb h0),hn,fun h0=>k _ (hd h0)⟩
theorem CV_.keep {w w':World}{G H:Nat→Prop}{p m:Nat}{S:CliS}(h:CV_ w G p m S)(hk:∀q,q=p∨q=m∨G q→q < w.heap.size→w'.heap[q]? =w.heap[q]?)(hH:∀q,q < w.heap.size→G q→H q):CV_ w' H p m S:=by
 obtain⟨R,hB,hm,hE,hb,hn,hd⟩:=h;have k:∀ {A:Option Addr} {n c:Nat} {l:List UInt8},zdv w 0 A n c l∧FIn G A→zdv w' 0 A n c l∧FIn H A:=fun {A n c l} h=>⟨⟨h.1.hn,h.1.own.keep fun g _ hlt hA=>hk g (.inr (.inr (h.2 g hA))) hlt⟩,fun g hg=>hH g (h.1.own.fin g hg).2 (h.2 g hg)⟩
 exact⟨R,(hk p (.inl rfl) hB.lt).trans hB,hm.keep (hk m (.inr (.inl rfl)) hm.lt),hE,fun h0=>k (hb h0),hn,fun h0=>k (hd h0)⟩
theorem zwm {L:List Ms}{e:Ending}(h:CM w0 G p m S.wk (cliL S m R) ks rs W)(hE:EOk S R)(hb:S.wk≠0→⟨R.A,R.n,R.c,S.b⟩ ∈ rs)(hn:R.n2=S.data.length)(hd:S.data≠ []→ ⟨R.A2,R.n2,R.c2,S.data⟩ ∈ rs)(hs:SendR (1536+S.nd) L W e W') :
 zw3 w0 G p m S (cSend S L) e W':=by
 obtain⟨As,ns,cs,ds,rfl,hO,hbel⟩:=hs;exact⟨W.heap.size,As,ns,cs,ds,rfl,hO,h.size,(zwl h hE hb hn hd (Nat.le_refl _)).keep (fun q _ hq=>hbel.block q hq) (fun _ _ h=>h),(h.step hbel).only⟩
theorem zwn (h:CM w0 G p m S.wk (cliL S m R) ks rs W)(hE:EOk S R)(hb:S.wk≠0→⟨R.A,R.n,R.c,S.b⟩ ∈ rs)(hn:R.n2=S.data.length)(hd:S.data≠ []→ ⟨R.A2,R.n2,R.c2,S.data⟩ ∈ rs) :
 zw3 w0 G p m S [] (.returned (.slice none 0 0)) W:=
 ⟨W.heap.size,none,0,0,[],rfl,zg3.nil _ _,h.size,zwl h hE hb hn hd (Nat.le_refl _),h.only⟩
end
section
variable {w0:World} {G:Nat→Prop} {p m:Nat} {ks:List KB} {rs:List RB}
theorem zwo (ix sub:Int)(code:Nat)(h:code≤4294967295):∀M ∈ [abM ix sub code],MsOk M:=by
 intro M hM;simp at hM;subst hM;exact⟨Nat.zero_le _,h,Nat.zero_le _⟩
theorem zwq (S:CliS)(R:CR)(code:Nat)(W:World)(h:CM w0 G p m S.wk (cliL S m R) ks rs W)(hw:0≤S.wk∧S.wk≤21)(hE:EOk S R)(hc:code≤4294967295) :
 Calls Tryz.prog 142 #[.pointer (some ⟨p,0,none⟩),.int .u32 (code:Nat)] W (zw3 w0 G p m (cEnd S code []) (cFailL S code)):=by
 have HC:=zak h;have HE:=zak hE;have HW:=zak hw;have HOK:=zak (zwo S.ix S.sub code hc);obtain⟨P,hP⟩:∃P,P=zw3 w0 G p m (cEnd S code []) (cFailL S code):=⟨_,rfl⟩;rw[←hP];have HP:=zak hP;clear h hE hw hc hP;go_enter Tryz.func142,Tryz.ntmps142
 go_wp2_with fail
 refine (zer code none 0 0 [] W HC.out rfl rfl HW.out rfl (by omega) (fun _ _=>Sl.nil _ _)).mono ?_;rintro e W1 ⟨rfl,A',c',h1⟩;have H1:Hid (CM w0 G p m 0 (cliL (cEnd S code []) m { R with A2:=A',n2:=0,c2:=c' }) ks (⟨A',0,c',[]⟩ :: rs) W1):=zak h1;have z1:=h1.lt;have b4:W1.cell? ⟨p,4,none⟩=some (.int .i64 S.ix):=H1.out.blk.cell 4 rfl;have b5:W1.cell? ⟨p,5,none⟩=some (.int .i64 S.sub):=H1.out.blk.cell 5 rfl;have b1:W1.cell? ⟨p,1,none⟩=some (.int .i64 (1536+S.nd)):=H1.out.blk.cell 1 rfl;clear h1 HC;go_upto_region 2 with fail
 have HD1:=zak (H1.out.drew.alloc (.cells (msV (abM S.ix S.sub code) none 0 0) 95));have HB1:=zak (zdg W1.drew 95 (msV (abM S.ix S.sub code) none 0 0));unfold msV abM at HD1 HB1;refine wp_region_held_drew (S:=(fun w'=>(∀qA:Addr,qA.block < (W1).heap.size→w'.cell? qA=(W1).cell? qA)∧ Below (W1).heap.size (W1) w')) (by kernel_rfl) ?hS1 (fun hHeld=>?rest1)
 case hS1=>exact kSn
 case' rest1=>skip
 iterate 13 (refine tkN ?_;try simp only[PqL,Act.put])
 refine kRd 13 (fun K hK=>?_)
 go_simp
 refine hK.out _ _ ?hS17 (fun hHeld=>?rest17)
 case hS17=>exact kSn
 case' rest17=>(clear hK K;try simp only[PqL,Act.put])
 refine kRd 14 (fun K hK=>?_)
 go_simp
 refine (zhb p (1536+S.nd) [abM S.ix S.sub code] _ 1 1 _ (HD1.out.blk.cell 1 rfl) rfl (zg4 (M:=abM S.ix S.sub code) HB1.out rfl (Sl.nil _ _)) HOK.out (by omega)).mono ?_;rintro e w2 ⟨As,ns,cs,ds,rfl,hO,hb⟩;have HF:=zak (zwm (S:=cEnd S code []) (R:={ R with A2:=A',n2:=0,c2:=c' }) HD1.out HE.out (fun h=>absurd rfl h) rfl (fun h=>absurd rfl h) ⟨As,ns,cs,ds,rfl,hO,hb⟩);clear hO;refine hK.out _ _ ?hS20 (fun hHeld=>?rest20)
 case hS20=>exact kSn
 case' rest20=>(clear hK K;try simp only[PqL,Act.put])
 refine tkH 15 ?_;try simp only[PqL,Act.put]
 refine wpAnyH_done (by kernel_rfl) ?_ _;have hEnd:=hHeld.2
 repeat (clear hHeld)
 go_wp2_with fail
 rw[HP.out];exact HF.out
theorem zwr (tg:Bool):∀M ∈ [usegM tg],MsOk M:=by
 intro M hM;simp at hM;subst hM;exact⟨Nat.zero_le _,Nat.zero_le _,Nat.zero_le _⟩
theorem zws (S:CliS)(R:CR)(W:World)(h:CM w0 G p m S.wk (cliL S m R) ks rs W)(hw:0≤S.wk∧S.wk≤21)(hE:EOk S R)(hb:⟨R.A,R.n,R.c,S.b⟩ ∈ rs)(hn:R.n2=S.data.length)(hd:S.data= []) :
 Calls Tryz.prog 190 #[.pointer (some ⟨p,0,none⟩)] W (zw3 w0 G p m (cMoreS S) (cMoreL S)):=by
 have HC:=zak h;have HE:=zak hE;have HW:=zak hw;have HB:=zak hb;have HN:=zak hn;have HD:=zak hd;obtain⟨P,hP⟩:∃P,P=zw3 w0 G p m (cMoreS S) (cMoreL S):=⟨_,rfl⟩;rw[←hP];have HP:=zak hP;clear h hE hw hP hb hn hd;go_enter Tryz.func190,Tryz.ntmps190
 go_wp2_with fail
 refine (zem 15 W HC.out rfl HW.out ⟨by omega,by omega⟩).mono ?_;rintro e W1 ⟨rfl,h1⟩;have H1:Hid (CM w0 G p m (cMoreS S).wk (cliL (cMoreS S) m R) ks rs W1):=zak h1;have z1:=h1.lt;have b20:W1.cell? ⟨p,20,none⟩=some (.bool S.tg):=H1.out.blk.cell 20 rfl;have HD1:=zak (H1.out.alloc (.cells (msV (usegM S.tg) none 0 0) 95));have HB1:=zak (zdg W1 95 (msV (usegM S.tg) none 0 0));unfold msV usegM at HD1 HB1;clear h1 HC;go_wp2_with fail
 refine (zhb p (1536+S.nd) [usegM S.tg] _ 1 1 _ (HD1.out.blk.cell 1 rfl) rfl (zg4 (M:=usegM S.tg) HB1.out rfl (Sl.nil _ _)) (zwr _) (by omega)).mono ?_;rintro e w2 ⟨As,ns,cs,ds,rfl,hO,hb⟩;have HF:=zak (zwm (S:=cMoreS S) (R:=R) (L:=[usegM S.tg]) HD1.out HE.out (fun _=>HB.out) HN.out (fun h=>absurd HD.out h) ⟨As,ns,cs,ds,rfl,hO,hb⟩);clear hO hb;go_wp2_with fail
 rw[HP.out];exact HF.out
theorem zwt (S:CliS)(R:CR)(k:Int)(W:World)(h:CM w0 G p m S.wk (cliL S m R) ks rs W)(hE:EOk S R) :
 Calls Tryz.prog 225 #[.pointer (some ⟨p,0,none⟩),.int .i64 k] W fun e W'=>e= .returned (.bool (cSzB S k))∧ W=W':=by
 obtain⟨hE1,hE2,hE3,hE4⟩:=hE;have w64:wrap64 (S.en:Int)=(S.en:Int):=by unfold wrap64;omega
 have z:=h.lt;have b27:W.cell? ⟨p,27,none⟩=some (.bool S.es):=by rw[←hE2];exact h.blk.cell 27 rfl
 have b28:W.cell? ⟨p,28,none⟩=some (.int .u32 (S.en:Nat)):=by rw[←hE3];exact h.blk.cell 28 rfl
 have HR:Hid (cSzB S k=(!S.es || decide (k=(S.en:Int)))):=zak rfl;clear h hE1 hE2 hE3 hE4;obtain⟨es,hes⟩:∃es,es=S.es:=⟨_,rfl⟩;rw[←hes] at b27 HR;cases es
 · clear hes;go_enter Tryz.func225,Tryz.ntmps225
   go_wp2_with fail
   go_ret
   exact⟨by rw[HR.out];rfl,rfl⟩
 · clear hes;go_enter Tryz.func225,Tryz.ntmps225
   go_wp2_with fail
   go_ret
   exact⟨by rw[HR.out];simp;rfl,rfl⟩
theorem zwu (S:CliS)(R:CR)(W:World)(h:CM w0 G p m S.wk (cliL S m R) ks rs W)(hn:R.n=S.b.length)(h1:R.n≤100000) :
 Calls Tryz.prog 226 #[.pointer (some ⟨p,0,none⟩)] W fun e W'=>e= .returned (.int .i64 (btotal S.b:Nat))∧ W=W':=by
 have b17:W.cell? ⟨p,17,none⟩=some (.slice R.A R.n R.c):=h.blk.cell 17 rfl;have HT:=zak (zco S.b R.n hn);have hz:=h.lt;obtain⟨t,ht⟩:∃t,t=btotal S.b:=⟨_,rfl⟩;rw[←ht] at HT;rw[←ht];obtain⟨n,hnn⟩:∃n,n=R.n:=⟨_,rfl⟩;rw[←hnn] at HT b17 h1;clear hn h ht hnn;by_cases h7:1 < ((n:Int)+7 - 1) / 7
 · have e:(t:Int)=((n:Int)+7 - 1) / 7:=by have:=HT.out;split at this<;>omega
   have HE:=zak e;clear e;go_enter Tryz.func226,Tryz.ntmps226
   go_wp2_with fail
   go_ret
   exact⟨by rw[HE.out];rfl,rfl⟩
 · have e:(t:Int)=1:=by have:=HT.out;split at this<;>omega
   have HE:=zak e;clear e;go_enter Tryz.func226,Tryz.ntmps226
   go_wp2_with fail
   go_ret
   exact⟨by rw[HE.out];rfl,rfl⟩
end
end
end Go.Proofs.YtkkpjbjmhaecjaaGreat
