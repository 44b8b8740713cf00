/- None -/
import Derived.Test.YtkkpjbjmhaecjaaGreatU07
import Derived.Deep.QuietTactic
import Derived.BigQuiet
import Derived.Test.YtkkpjbjmhaecjaaGreatU08
namespace Go.Proofs.YtkkpjbjmhaecjaaGreat
set_option linter.all false
set_option maxRecDepth 100000
set_option maxHeartbeats 2000000
section
section
open Go.RowKit
theorem zfk {B:Nat}{a:World}(b:Nat)(hb:B≤b):∀(vs:List Value) (o:Nat) {w:World},Below B a w→Below B a (w.setCells b o vs)
 | [],_,_,h=>h
 | v :: r,o,_,h=>zfk b hb r (o+1) (h.setCell (p:=⟨b,o,none⟩) hb v)
theorem zfl {w:World}{g n:Nat}{t:TypeId}{cs:Array Value}(hB:Blk w g t cs)(hn:n=cs.size):w.there g 0 n:=by
 intro j hj;rw[Nat.zero_add];exact⟨by rw[hB.cell j (Array.getElem?_eq_getElem (by omega))];rfl,hB.frozen j⟩
def tyNm (t:Int):ByteArray:=if t=1 then ⟨#[98,111,111,108]⟩ else if t=2 then ⟨#[105,56]⟩ else if t=3 then ⟨#[105,49,54]⟩ else if t=4 then ⟨#[105,51,50]⟩ else if t=5 then ⟨#[117,56]⟩ else if t=6 then ⟨#[117,49,54]⟩ else if t=7 then ⟨#[117,51,50]⟩ else
 if t=9 then ⟨#[116,101,120,116]⟩ else if t=10 then ⟨#[98,121,116,101,115]⟩ else if t=15 then ⟨#[100,111,109,97,105,110]⟩ else if t=21 then ⟨#[105,54,52]⟩ else ⟨#[]⟩
def tyRow (t:Int):Array Value:=#[.string (tyNm t),.int .i64 (tySize t),.int .i64 (tyBits t),.bool (tySigned t)]
def kindArr:Array Value:=((List.range 32).flatMap fun t=>(tyRow (t:Nat)).toList).toArray
def KindsR (w:World) (e:Ending) (w':World):Prop:=e= .returned (.agg kindArr)∧ Below w.heap.size w w'
theorem zfm:(Tryz.prog.info? 248).map (·.size)=some kindArr.size:=by kernel_rfl
theorem zfn:kindArr.all (·.oneCell')=true:=by decide +kernel
theorem zfo:kindArr.size=Tryz.zeroCells248.size:=by decide +kernel
theorem zfp (w:World):Calls Tryz.prog 203 #[] w (KindsR w):=by
 have hB:=zbf w 248 Tryz.zeroCells248;go_enter Tryz.func203,Tryz.ntmps203
 go_wp2_with (with_reducible refine wpList_store_mid rfl _ _ _ rfl w.heap.size 0 _ rfl rfl (zfl (zbf w _ _) ?_) ?_ ?_ ?_)
 all_goals (generalize hX:Array.setIfInBounds _ 87 _=X;have hk:X=kindArr:=(hX.symm.trans (by kernel_rfl));clear hX;subst hk)
 iterate 3 first | exact zfo | exact zfm | exact zfn
 have hE:=hB.all kindArr.toList (by rw[Array.length_toList];exact zfo);rw[Array.toArray_toList] at hE;have hS:Below w.heap.size w ((w.alloc (.cells Tryz.zeroCells248 248)).setCells w.heap.size 0 kindArr.toList):=zfk _ (Nat.le_refl _) _ _ (za7 (Below.refl _ _) _);generalize (w.alloc (.cells Tryz.zeroCells248 248)).setCells w.heap.size 0 kindArr.toList=W at *
 go_wp2
 refine bodyPost_ret (v:= .agg kindArr) (results_cell_row rfl _ _ _ _ _ _ _ rfl hE Tryz.underlying248 rfl zfm) rfl ?_;exact⟨rfl,hS⟩
end
section
open Go.RowKit
def RowR (t:Int) (w:World) (e:Ending) (w':World):Prop:=e= .returned (.agg #[.string (tyNm t),.int .i64 (tySize t),.int .i64 (tyBits t),.bool (tySigned t)])∧ Below w.heap.size w w'
theorem zfq {t:Int}(h0:0≤t)(h1:t < 32)(w:World):(Instr.index 248 (.agg kindArr) (.int .i64 t)).run Tryz.prog w= .ok (.agg #[.string (tyNm t),.int .i64 (tySize t),.int .i64 (tyBits t),.bool (tySigned t)]) w:=by
 have h:t=0∨t=1∨t=2∨t=3∨t=4∨t=5∨t=6∨t=7∨t=8∨t=9∨t=10∨t=11∨t=12∨t=13∨t=14∨t=15∨t=16∨t=17∨t=18∨t=19∨t=20∨t=21∨t=22∨t=23∨t=24∨t=25∨t=26∨t=27∨t=28∨t=29∨t=30∨t=31:=by omega
 clear h0 h1;rcases h with rfl | rfl | rfl | rfl | rfl | rfl | rfl | rfl | rfl | rfl | rfl | rfl | rfl | rfl | rfl | rfl | rfl | rfl | rfl | rfl | rfl | rfl | rfl | rfl | rfl | rfl | rfl | rfl | rfl | rfl | rfl | rfl<;>(show _=_;kernel_rfl)
theorem zfr {t:Int}(h:t < 0∨32≤t):tyNm t=⟨#[]⟩∧ tySize t=0∧tyBits t=0∧tySigned t=false:=by
 obtain⟨h1,h2,h3,_⟩:=zca (t:=t) (by omega);refine⟨?_,h1,h2,h3⟩;unfold tyNm;iterate 11 rw[if_neg (by omega)]
theorem zfs (t:Int)(w:World):Calls Tryz.prog 156 #[.int .i64 t] w (RowR t w):=by
 by_cases h:t < 0∨32≤t
 · have HR:=zak (zfr h);have HE:RowR t w (.returned (.agg #[.string ⟨#[]⟩,.int .i64 0,.int .i64 0,.bool false])) (w.alloc (.cells #[.string ⟨#[]⟩,.int .i64 0,.int .i64 0,.bool false] 217)):=by
    obtain⟨h1,h2,h3,h4⟩:=HR.out;unfold RowR;rw[h1,h2,h3,h4];exact⟨rfl,za7 (Below.refl _ _) _⟩
   rcases h with h | h
   · go_enter Tryz.func156,Tryz.ntmps156
     go_wp2_with fail
     exact bodyPost_ret (v:= .agg #[.string ⟨#[]⟩,.int .i64 0,.int .i64 0,.bool false]) (by simp[results,Tryz.results156,go_sem]) rfl HE
   · have h0: ¬t < 0:=by omega
     go_enter Tryz.func156,Tryz.ntmps156
     go_wp2_with fail
     exact bodyPost_ret (v:= .agg #[.string ⟨#[]⟩,.int .i64 0,.int .i64 0,.bool false]) (by simp[results,Tryz.results156,go_sem]) rfl HE
 · have h0:0≤t:=by omega
   have h1:t < 32:=by omega
   clear h;have hk:=fun w=>zfq h0 h1 w
   have q0:=zbf w 217 #[.string ⟨#[]⟩,.int .i64 0,.int .i64 0,.bool false];go_enter Tryz.func156,Tryz.ntmps156
   go_wp2_with fail
   refine (zfp _).mono ?_;rintro e w1 ⟨rfl,hb1⟩;have q:=q0.below hb1 q0.lt;obtain⟨cZ,da,db,dc⟩:=cel4 q;have eQ:=q.frozen;have hbw:=za5 hb1 (za7 (Below.refl w.heap.size w) (.cells #[.string ⟨#[]⟩,.int .i64 0,.int .i64 0,.bool false] 217));go_wp2_with fail
   exact bodyPost_ret (v:= .agg #[.string (tyNm t),.int .i64 (tySize t),.int .i64 (tyBits t),.bool (tySigned t)]) (by simp[results,Tryz.results156,go_sem,cZ,da,db,dc,eQ]) rfl ⟨rfl,kBl⟩
theorem zft:tySize 1=1:=rfl
theorem zfu:tyBits 1=1:=rfl
theorem zfv:tySigned 1=false:=rfl
theorem tv_s2:tySize 2=1:=rfl
theorem tv_b2:tyBits 2=8:=rfl
theorem tv_g2:tySigned 2=true:=rfl
theorem tv_s3:tySize 3=2:=rfl
theorem tv_b3:tyBits 3=16:=rfl
theorem tv_g3:tySigned 3=true:=rfl
theorem tv_s4:tySize 4=4:=rfl
theorem tv_b4:tyBits 4=32:=rfl
theorem tv_g4:tySigned 4=true:=rfl
theorem zfw:tySize 5=1:=rfl
theorem zfx:tyBits 5=8:=rfl
theorem zfy:tySigned 5=false:=rfl
theorem zfz:tySize 6=2:=rfl
theorem zf0:tyBits 6=16:=rfl
theorem zf1:tySigned 6=false:=rfl
theorem zf2:tySize 7=4:=rfl
theorem zf3:tyBits 7=32:=rfl
theorem zf4:tySigned 7=false:=rfl
theorem zf5:tySize 21=8:=rfl
theorem zf6:tyBits 21=64:=rfl
theorem zf7:tySigned 21=true:=rfl
theorem zf8 {t:Int}(h:(tyNm t).toList= []):tySize t=0∧tyBits t=0∧tySigned t=false∧tyKnown t=false:=by
 rcases zb7 t with rfl | rfl | rfl | rfl | rfl | rfl | rfl | rfl | rfl | rfl | rfl | hn
 iterate 11 exact absurd h (by simp[tyNm])
 exact⟨(zca hn).1,(zca hn).2.1,(zca hn).2.2.1,(zca hn).2.2.2.1⟩
theorem zf9 {t:Int}(h: ¬(tyNm t).toList= []):tyKnown t=true:=by
 rcases zb7 t with rfl | rfl | rfl | rfl | rfl | rfl | rfl | rfl | rfl | rfl | rfl | ⟨h1,h2,h3,h4,h5,h6,h7,h9,h10,h15,h21⟩
 iterate 11 rfl
 exfalso
 apply h;simp[tyNm,h1,h2,h3,h4,h5,h6,h7,h9,h10,h15,h21]
theorem zgb {t:Int}:(¬(tyNm t).toList= []→ tyKnown t=true)∧ ((tyNm t).toList= []→ tySize t=0∧tyBits t=0∧tySigned t=false∧tyKnown t=false):=⟨zf9,zf8⟩
theorem zgd (t:Int)(w:World):Calls Tryz.prog 99 #[.int .i64 t] w fun e w'=>e= .returned (.bool (tyKnown t))∧ Below w.heap.size w w':=by
 have H:=zak (zgb (t:=t));go_enter Tryz.func99,Tryz.ntmps99
 go_wp2_with fail
 refine (zfs t _).mono ?_;rintro e w1 ⟨rfl,hb1⟩;go_wp2_with fail
 all_goals
  go_ret
  refine⟨zav ?_,hb1⟩
  have:=H.out.1
  have:=H.out.2
  simp_all
theorem fld1 (a b c d:Value)(w:World):(Instr.field 217 (.agg #[a,b,c,d]) 1).run Tryz.prog w= .ok b w:=by kernel_rfl
theorem fld2 (a b c d:Value)(w:World):(Instr.field 217 (.agg #[a,b,c,d]) 2).run Tryz.prog w= .ok c w:=by kernel_rfl
theorem zge (t:Int)(w:World):Calls Tryz.prog 159 #[.int .i64 t] w fun e w'=>e= .returned (.int .i64 (tyBits t))∧ Below w.heap.size w w':=by
 have hf:=fld2 (.string (tyNm t)) (.int .i64 (tySize t)) (.int .i64 (tyBits t)) (.bool (tySigned t));go_enter Tryz.func159,Tryz.ntmps159
 go_wp2_with fail
 refine (zfs t _).mono ?_;rintro e w1 ⟨rfl,hb1⟩;go_wp2_with fail
 go_ret
 exact⟨rfl,hb1⟩
theorem zgf (t:Int)(w:World):Calls Tryz.prog 202 #[.int .i64 t] w fun e w'=>e= .returned (.int .i64 (tySize t))∧ Below w.heap.size w w':=by
 have hf:=fld1 (.string (tyNm t)) (.int .i64 (tySize t)) (.int .i64 (tyBits t)) (.bool (tySigned t));go_enter Tryz.func202,Tryz.ntmps202
 go_wp2_with fail
 refine (zfs t _).mono ?_;rintro e w1 ⟨rfl,hb1⟩;go_wp2_with fail
 go_ret
 exact⟨rfl,hb1⟩
def LimR (t:Int) (w:World) (e:Ending) (w':World):Prop:=e= .returned (.tuple #[.int .i64 (tyLow t),.int .i64 (tyHigh t),.bool (tyNum t)])∧ Below w.heap.size w w'
theorem zgg {t:Int}(h:tyBits t=0):tyLow t=0∧tyHigh t=0∧tyNum t=false:=by
 have:tyNum t=false:=by simp[tyNum,h]
 rcases zb7 t with rfl | rfl | rfl | rfl | rfl | rfl | rfl | rfl | rfl | rfl | rfl | hn
 iterate 7 exact absurd h (by decide)
 iterate 3 exact⟨rfl,rfl,this⟩
 · exact absurd h (by decide)
 · exact⟨(zca hn).2.2.2.2.2,(zca hn).2.2.2.2.1,this⟩
theorem zgh (t:Int)(w:World):Calls Tryz.prog 97 #[.int .i64 t] w (LimR t w):=by
 by_cases h:tyBits t=0
 · have HL:=zak (zgg h);have h':(tyBits t == 0)=true:=by simpa using h
   clear h;go_enter Tryz.func97,Tryz.ntmps97
   go_wp2_with fail
   refine (zfs t _).mono ?_;rintro e w1 ⟨rfl,hb1⟩;go_wp2_with fail
   go_ret3
   obtain⟨h1,h2,h3⟩:=HL.out;exact⟨by rw[h1,h2,h3];rfl,kBl⟩
 · have hc:=zb9 t h;clear h;rcases hc with rfl | rfl | rfl | rfl | rfl | rfl | rfl | rfl
   all_goals
    go_enter Tryz.func97,Tryz.ntmps97
    go_wp2_with fail
    refine (zfs _ _).mono ?_;rintro e w1 ⟨rfl,hb1⟩;simp only[zft,tv_s2,tv_s3,tv_s4,zfw,zfz,zf2,zf5,zfu,tv_b2,tv_b3,tv_b4,zfx,zf0,zf3,zf6,zfv,tv_g2,tv_g3,tv_g4,zfy,zf1,zf4,zf7];go_wp2_with fail
    (try go_quiet (fail))
    (try go_wp2_with fail)
    (try go_ret3)
    exact⟨rfl,kBl⟩
end
section
open Go.RowKit
def DecR (t:Int) (l:List UInt8) (w:World) (e:Ending) (w':World):Prop:=e= .returned (.tuple #[.int .i64 (decV t l),.int .i64 (decE t l)])∧ Below w.heap.size w w'
theorem zgi (t:Int)(A:Option Addr)(n c:Nat)(l:List UInt8)(w:World)(hn:n=l.length)(hc:n≤c)(hl:n≤35184372088832)(hs:Sl w A (l.map bv)) :
 Calls Tryz.prog 204 #[.int .i64 t,.slice A n c] w (DecR t l w):=by
 by_cases h:tyBits t=0
 · have HL:=zak (zch l h);have h':(tyBits t == 0)=true:=by simpa using h
   clear h;go_enter Tryz.func204,Tryz.ntmps204
   go_wp2_with fail
   refine (zfs t _).mono ?_;rintro e w1 ⟨rfl,hb1⟩;go_wp2_with fail
   go_ret2
   obtain⟨h1,h2⟩:=HL.out;exact⟨by rw[h1,h2];rfl,kBl⟩
 have h':(tyBits t == 0)=false:=by simpa using h
 by_cases h1:(n:Int) < tySize t
 · have HL:=zak (zci l h (by omega));clear h;go_enter Tryz.func204,Tryz.ntmps204
   go_wp2_with fail
   refine (zfs t _).mono ?_;rintro e w1 ⟨rfl,hb1⟩;go_wp2_with fail
   go_ret2
   obtain⟨h1,h2⟩:=HL.out;exact⟨by rw[h1,h2];rfl,kBl⟩
 by_cases h2:tySize t < (n:Int)
 · have HL:=zak (zcj l h (by omega));clear h;go_enter Tryz.func204,Tryz.ntmps204
   go_wp2_with fail
   refine (zfs t _).mono ?_;rintro e w1 ⟨rfl,hb1⟩;go_wp2_with fail
   go_ret2
   obtain⟨h1,h2⟩:=HL.out;exact⟨by rw[h1,h2];rfl,kBl⟩
 have h3:tySize t=(n:Int):=by omega
 have HW:=zak (zcm h);have hx:=zan l;rw[←hn] at hx;by_cases hg:tySigned t=true
 · have HL:=zak (zck l h (by omega) hg);have HN:=zak hn;have H3:=zak h3;clear h hn h3 hx;go_enter Tryz.func204,Tryz.ntmps204
   go_wp2_with fail
   refine (zfs t _).mono ?_;rintro e w1 ⟨rfl,hb1⟩;go_wp2_with fail
   refine (ze0 A n c l (tySize t) _ HW.out HN.out H3.out hc ((hs.below hb1).alloc _)).mono ?_;rintro e w2 ⟨rfl,rfl⟩;go_wp2_with fail
   go_ret2
   obtain⟨h1,h2⟩:=HL.out;exact⟨by rw[h1,h2];rfl,kBl⟩
 · have hg':tySigned t=false:=by simpa using hg
   have HL:=zak (zcl l h (by omega) hg');have hu:=zcn h hg';have h8:1≤tySize t∧tySize t≤8:=by rcases HW.out with hw | hw | hw | hw<;>omega
   have HG:=zak (fun W (h:Sl W A (l.map bv))=> zeo A n c l 0 (tySize t) W hn hc (by omega) (by omega) (by omega) h8.1 h8.2 h);have HE:=zak (show (l.drop (Int.toNat 0)).take (tySize t).toNat=l by rw[List.take_of_length_le (by simp;omega)];rfl);have hx4:n=(tySize t).toNat:=by omega
   rw[hx4] at hx;clear h hn hx4 h8 HW hg hg' h' h1 h2;obtain⟨x,hxx⟩:∃x,leN l=x:=⟨_,rfl⟩;rw[hxx] at HL hx;have HX:=zak hxx;clear hxx;rcases hu with rfl | rfl | rfl | rfl
   all_goals
    simp only[zft,zfw,zfz,zf2,zfu,zfx,zf0,zf3,zfv,zfy,zf1,zf4] at HG HE h3 hx;rcases (show n=1∨n=2∨n=4 by omega) with rfl | rfl | rfl<;>first | (exfalso;revert h3;decide) | skip
   all_goals
    clear h3;simp only[p1,p2,p4] at hx;have hx':x≤4294967295:=by omega
    have HX2:=zak hx;clear hx;go_enter Tryz.func204,Tryz.ntmps204
    go_wp2_with fail
    refine (zfs _ _).mono ?_;rintro e w1 ⟨rfl,hb1⟩;simp only[zft,zfw,zfz,zf2,zfu,zfx,zf0,zf3,zfv,zfy,zf1,zf4];have hs1:=(hs.below hb1).alloc;go_wp2_with fail
    refine (HG.out _ (hs1 _)).mono ?_;rintro e w2 ⟨rfl,rfl⟩;rw[HE.out,HX.out];clear hs1;go_wp2_with fail
    all_goals
     go_ret2
     obtain⟨h1,h2⟩:=HL.out
     have:=HX2.out
     first
      | (refine⟨by rw[h1,h2,if_neg (by omega),if_neg (by omega)];rfl,kBl⟩;done)
      | (refine⟨by rw[h1,h2,if_pos (by simp at *;omega),if_pos (by simp at *;omega)];rfl,kBl⟩;done)
      | (refine⟨by rw[h1,h2,if_neg (by simp at *;omega),if_neg (by simp at *;omega)];rfl,kBl⟩;done)
theorem zgj (A:Option Addr)(n c:Nat)(l:List UInt8)(w:World)(hn:n=l.length)(hl:n≤35184372088832)(hs:Sl w A (l.map bv)) :
 Calls Tryz.prog 205 #[.slice A n c] w fun e w'=>e= .returned (.bool (printB l))∧ w=w':=by
 have HN:=zak hn;clear hn;go_enter Tryz.func205,Tryz.ntmps205
 go_wp2_with fail
 go_loop [4,7] (fun _ i=> ∃k:Nat,k≤n∧i= .int .i64 k∧Hid (∀j (hj:j < l.length),j < k→32≤(l[j]).toNat∧(l[j]).toNat≤126)) (fun _ i=>n - (intOf i).toNat)
 case atStart=>exact⟨0,by omega,rfl,zak (by intro j _ h;omega)⟩
 case round=>
  obtain⟨k,hk,rfl,HA⟩:=hrel;by_cases hlt:k < n
  · obtain⟨ad,rfl,hcell⟩:=hs.byte (j:=k) (by have:=HN.out;omega);obtain⟨b,hb⟩:∃b,b=(l[k]'(by have:=HN.out;omega)).toNat:=⟨_,rfl⟩;rw[←hb] at hcell;have HB:=zak hb;clear hb;by_cases hp:32≤b∧b≤126
    · obtain⟨hp1,hp2⟩:=hp;go_wp2_with fail
      go_round
      case rel=>
       refine⟨k+1,by omega,by go_num,zak ?_⟩;intro j hj hjk;by_cases e:j=k
       · subst e;rw[←HB.out];exact⟨hp1,hp2⟩
       · exact HA.out j hj (by omega)
      case measure=>simp[intOf];omega
    · have HP:=zak hp;rcases (show b < 32∨(32≤b∧126 < b) by omega) with hp1 | ⟨hp1,hp2⟩
      all_goals
       clear hp;go_wp2_with fail
       go_ret
       exact⟨zav (zco l k (by have:=HN.out;omega) (by rw[←HB.out];exact HP.out)).symm,rfl⟩
  · go_wp2_with fail
    go_ret
    exact⟨zav (zcp l (fun j hj=>HA.out j hj (by have:=HN.out;omega))).symm,rfl⟩
def CheckR (t mx:Int) (l:List UInt8) (w:World) (e:Ending) (w':World):Prop:=e= .returned (.int .i64 (checkE t mx l))∧ Below w.heap.size w w'
theorem zgk (t mx:Int)(A:Option Addr)(n c:Nat)(l:List UInt8)(w:World)(hn:n=l.length)(hc:n≤c)(hl:n≤35184372088832)(hs:Sl w A (l.map bv)) :
 Calls Tryz.prog 161 #[.int .i64 t,.int .i64 mx,.slice A n c] w (CheckR t mx l w):=by
 have H:=zak (zgb (t:=t));by_cases hk:tyKnown t=false
 · have HC:=zak (show checkE t mx l=15 by simp[checkE,hk]);have hz:(tyNm t).toList= []∧ tySize t=0∧tyBits t=0∧tySigned t=false:=by
    have h1:(tyNm t).toList= []:=by
     refine Classical.byContradiction fun h=>?_
     have:=H.out.1 h
     rw[hk] at this;cases this
    obtain⟨h2,h3,h4,_⟩:=H.out.2 h1;exact⟨h1,h2,h3,h4⟩
   obtain⟨z1,z2,z3,z4⟩:=hz;clear hk;go_enter Tryz.func161,Tryz.ntmps161
   go_wp2_with fail
   refine (zfs t _).mono ?_;rintro e w1 ⟨rfl,hb1⟩;go_wp2_with fail
   go_ret
   exact⟨zau HC.out.symm,kBl⟩
 have hk':tyKnown t=true:=by simpa using hk
 have hz: ¬(tyNm t).toList= []:=by
  intro h
  have:=(H.out.2 h).2.2.2
  rw[hk'] at this;cases this
 by_cases hb:0 < tyBits t
 · have HC:=zak (show checkE t mx l=decE t l by simp[checkE,hk',hb]);clear hk hk';go_enter Tryz.func161,Tryz.ntmps161
   go_wp2_with fail
   refine (zfs t _).mono ?_;rintro e w1 ⟨rfl,hb1⟩;have HD:=zak (zgi t A n c l (w1.alloc (.cells #[.string (tyNm t),.int .i64 (tySize t),.int .i64 (tyBits t),.bool (tySigned t)] 217)) hn hc hl ((hs.below hb1).alloc _));clear hn;go_wp2_with fail
   refine HD.out.mono ?_;rintro e w2 ⟨rfl,hb2⟩;go_wp2_with fail
   go_ret
   exact⟨zau HC.out.symm,kBl⟩
 have HC:=zak (show checkE t mx l=if mx < (l.length:Int)∨ 256 < l.length then 3 else if t=9∧printB l=false then 4 else 0 by simp[checkE,hk',hb]);have HN:=zak hn;clear hk hk' hn;by_cases hbig:mx < (n:Int)∨ 256 < n
 · have HB:=zak hbig;by_cases hq:256 < mx
   all_goals
    first | (have hq2:(256:Int) < (n:Int):=by omega) | (have hq2:mx < (n:Int):=by omega)
    clear hbig;go_enter Tryz.func161,Tryz.ntmps161
    go_wp2_with fail
    refine (zfs t _).mono ?_;rintro e w1 ⟨rfl,hb1⟩;go_wp2_with fail
    go_ret
    refine⟨zau ?_,kBl⟩;rw[HC.out,if_pos (by have:=HN.out;have:=HB.out;omega)]
 · have hn1:(n:Int)≤ mx:=by omega
   have hn2:(n:Int)≤ 256:=by omega
   have HNB:Hid (¬(mx < (l.length:Int)∨ 256 < l.length)):=zak (by have:=HN.out;omega);clear hbig;by_cases h9:t=9
   · subst h9;cases hpr:printB l
     all_goals
      have HP:=zak hpr;clear hpr;by_cases hq:256 < mx
      all_goals
       go_enter Tryz.func161,Tryz.ntmps161
       go_wp2_with fail
       refine (zfs _ _).mono ?_;rintro e w1 ⟨rfl,hb1⟩;go_wp2_with fail
       refine (zgj A n c l _ HN.out hl ((hs.below hb1).alloc _)).mono ?_;rintro e w2 ⟨rfl,rfl⟩;rw[HP.out];go_wp2_with fail
       go_ret
       refine⟨zau ?_,kBl⟩;rw[HC.out,if_neg HNB.out,HP.out]
       rfl
   · have H9:Hid (t≠9):=zak h9;have h9':(t == 9)=false:=by simpa using h9
     clear h9;by_cases hq:256 < mx
     all_goals
      go_enter Tryz.func161,Tryz.ntmps161
      go_wp2_with fail
      refine (zfs _ _).mono ?_;rintro e w1 ⟨rfl,hb1⟩;go_wp2_with fail
      go_ret
      refine⟨zau ?_,kBl⟩;rw[HC.out,if_neg HNB.out,if_neg (fun h=>H9.out h.1)]
end
end
end Go.Proofs.YtkkpjbjmhaecjaaGreat
