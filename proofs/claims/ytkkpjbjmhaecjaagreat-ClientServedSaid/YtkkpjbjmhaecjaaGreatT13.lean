/- None -/
import Derived.Test.YtkkpjbjmhaecjaaGreatT12
namespace Go.Proofs.YtkkpjbjmhaecjaaGreat
set_option linter.all false
set_option maxRecDepth 100000
set_option maxHeartbeats 2000000
section
section
open Go.RowKit
theorem zhz {B:Nat}{a:World}(b:Nat)(hb:B≤b):∀(vs:List Value) (o:Nat) {w:World},Below B a w→Below B a (w.setCells b o vs)
 | [],_,_,h=>h
 | v :: r,o,_,h=>zhz b hb r (o+1) (h.setCell (p:=⟨b,o,none⟩) hb v)
theorem zh0 {w:World}{g n:Nat}{t:TypeId}{cs:Array Value}(hB:Blk w g t cs)(hn:n=cs.size):w.there g 0 n:=by
 intro j hj;rw[Nat.zero_add];exact⟨by rw[hB.cell j (Array.getElem?_eq_getElem (by omega))];rfl,hB.frozen j⟩
def tyNm (t:Int):ByteArray:=if t=1 then ⟨#[98,111,111,108]⟩ else if t=2 then ⟨#[105,56]⟩ else if t=3 then ⟨#[105,49,54]⟩ else if t=4 then ⟨#[105,51,50]⟩ else if t=5 then ⟨#[117,56]⟩ else if t=6 then ⟨#[117,49,54]⟩ else if t=7 then ⟨#[117,51,50]⟩ else
 if t=9 then ⟨#[116,101,120,116]⟩ else if t=10 then ⟨#[98,121,116,101,115]⟩ else if t=15 then ⟨#[100,111,109,97,105,110]⟩ else if t=21 then ⟨#[105,54,52]⟩ else ⟨#[]⟩
def tyRow (t:Int):Array Value:=#[.string (tyNm t),.int .i64 (tySize t),.int .i64 (tyBits t),.bool (tySigned t)]
def kindArr:Array Value:=((List.range 32).flatMap fun t=>(tyRow (t:Nat)).toList).toArray
def KindsR (w:World) (e:Ending) (w':World):Prop:=e= .returned (.agg kindArr)∧ Below w.heap.size w w'
theorem zh1:(Tryz.prog.info? 248).map (·.size)=some kindArr.size:=by kernel_rfl
theorem zh2:kindArr.all (·.oneCell')=true:=by decide +kernel
theorem zh3:kindArr.size=Tryz.zeroCells248.size:=by decide +kernel
theorem zh4 (w:World):Calls Tryz.prog 203 #[] w (KindsR w):=by
 have hB:=zdg w 248 Tryz.zeroCells248;go_enter Tryz.func203,Tryz.ntmps203
 go_wp2_with (with_reducible refine wpList_store_mid rfl _ _ _ rfl w.heap.size 0 _ rfl rfl (zh0 (zdg w _ _) ?_) ?_ ?_ ?_)
 all_goals (generalize hX:Array.setIfInBounds _ 87 _=X;have hk:X=kindArr:=(hX.symm.trans (by kernel_rfl));clear hX;subst hk)
 iterate 3 first | exact zh3 | exact zh1 | exact zh2
 have hE:=hB.all kindArr.toList (by rw[Array.length_toList];exact zh3);rw[Array.toArray_toList] at hE;have hS:Below w.heap.size w ((w.alloc (.cells Tryz.zeroCells248 248)).setCells w.heap.size 0 kindArr.toList):=zhz _ (Nat.le_refl _) _ _ (zc5 (Below.refl _ _) _);generalize (w.alloc (.cells Tryz.zeroCells248 248)).setCells w.heap.size 0 kindArr.toList=W at *
 go_wp2
 refine bodyPost_ret (v:= .agg kindArr) (results_cell_row rfl _ _ _ _ _ _ _ rfl hE Tryz.underlying248 rfl zh1) rfl ?_;exact⟨rfl,hS⟩
end
section
open Go.RowKit
def RowR (t:Int) (w:World) (e:Ending) (w':World):Prop:=e= .returned (.agg #[.string (tyNm t),.int .i64 (tySize t),.int .i64 (tyBits t),.bool (tySigned t)])∧ Below w.heap.size w w'
theorem zh5 {t:Int}(h0:0≤t)(h1:t < 32)(w:World):(Instr.index 248 (.agg kindArr) (.int .i64 t)).run Tryz.prog w= .ok (.agg #[.string (tyNm t),.int .i64 (tySize t),.int .i64 (tyBits t),.bool (tySigned t)]) w:=by
 have h:t=0∨t=1∨t=2∨t=3∨t=4∨t=5∨t=6∨t=7∨t=8∨t=9∨t=10∨t=11∨t=12∨t=13∨t=14∨t=15∨t=16∨t=17∨t=18∨t=19∨t=20∨t=21∨t=22∨t=23∨t=24∨t=25∨t=26∨t=27∨t=28∨t=29∨t=30∨t=31:=by omega
 clear h0 h1;rcases h with rfl | rfl | rfl | rfl | rfl | rfl | rfl | rfl | rfl | rfl | rfl | rfl | rfl | rfl | rfl | rfl | rfl | rfl | rfl | rfl | rfl | rfl | rfl | rfl | rfl | rfl | rfl | rfl | rfl | rfl | rfl | rfl<;>(show _=_;kernel_rfl)
theorem zh6 {t:Int}(h:t < 0∨32≤t):tyNm t=⟨#[]⟩∧ tySize t=0∧tyBits t=0∧tySigned t=false:=by
 obtain⟨h1,h2,h3,_⟩:=zax (t:=t) (by omega);refine⟨?_,h1,h2,h3⟩;unfold tyNm;iterate 11 rw[if_neg (by omega)]
theorem zh7 (t:Int)(w:World):Calls Tryz.prog 156 #[.int .i64 t] w (RowR t w):=by
 by_cases h:t < 0∨32≤t
 · have HR:=zak (zh6 h);have HE:RowR t w (.returned (.agg #[.string ⟨#[]⟩,.int .i64 0,.int .i64 0,.bool false])) (w.alloc (.cells #[.string ⟨#[]⟩,.int .i64 0,.int .i64 0,.bool false] 217)):=by
    obtain⟨h1,h2,h3,h4⟩:=HR.out;unfold RowR;rw[h1,h2,h3,h4];exact⟨rfl,zc5 (Below.refl _ _) _⟩
   rcases h with h | h
   · go_enter Tryz.func156,Tryz.ntmps156
     go_wp2_with fail
     exact bodyPost_ret (v:= .agg #[.string ⟨#[]⟩,.int .i64 0,.int .i64 0,.bool false]) (by simp[results,Tryz.results156,go_sem]) rfl HE
   · have h0: ¬t < 0:=by omega
     go_enter Tryz.func156,Tryz.ntmps156
     go_wp2_with fail
     exact bodyPost_ret (v:= .agg #[.string ⟨#[]⟩,.int .i64 0,.int .i64 0,.bool false]) (by simp[results,Tryz.results156,go_sem]) rfl HE
 · have h0:0≤t:=by omega
   have h1:t < 32:=by omega
   clear h;have hk:=fun w=>zh5 h0 h1 w
   have q0:=zdg w 217 #[.string ⟨#[]⟩,.int .i64 0,.int .i64 0,.bool false];go_enter Tryz.func156,Tryz.ntmps156
   go_wp2_with fail
   refine (zh4 _).mono ?_;rintro e w1 ⟨rfl,hb1⟩;have q:=q0.below hb1 q0.lt;obtain⟨cI,cJ,cK,cS⟩:=cel4 q;have ei:=q.frozen;have hbw:=zc4 hb1 (zc5 (Below.refl w.heap.size w) (.cells #[.string ⟨#[]⟩,.int .i64 0,.int .i64 0,.bool false] 217));go_wp2_with fail
   exact bodyPost_ret (v:= .agg #[.string (tyNm t),.int .i64 (tySize t),.int .i64 (tyBits t),.bool (tySigned t)]) (by simp[results,Tryz.results156,go_sem,cI,cJ,cK,cS,ei]) rfl ⟨rfl,kBl⟩
theorem zh8:tySize 1=1:=rfl
theorem zh9:tyBits 1=1:=rfl
theorem zia:tySigned 1=false:=rfl
theorem tv_s2:tySize 2=1:=rfl
theorem tv_b2:tyBits 2=8:=rfl
theorem tv_g2:tySigned 2=true:=rfl
theorem tv_s3:tySize 3=2:=rfl
theorem tv_b3:tyBits 3=16:=rfl
theorem tv_g3:tySigned 3=true:=rfl
theorem tv_s4:tySize 4=4:=rfl
theorem tv_b4:tyBits 4=32:=rfl
theorem tv_g4:tySigned 4=true:=rfl
theorem zib:tySize 5=1:=rfl
theorem zic:tyBits 5=8:=rfl
theorem zid:tySigned 5=false:=rfl
theorem zie:tySize 6=2:=rfl
theorem zif:tyBits 6=16:=rfl
theorem zig:tySigned 6=false:=rfl
theorem zih:tySize 7=4:=rfl
theorem zii:tyBits 7=32:=rfl
theorem zij:tySigned 7=false:=rfl
theorem zik:tySize 21=8:=rfl
theorem zil:tyBits 21=64:=rfl
theorem zim:tySigned 21=true:=rfl
theorem zin {t:Int}(h:(tyNm t).toList= []):tySize t=0∧tyBits t=0∧tySigned t=false∧tyKnown t=false:=by
 rcases zav t with rfl | rfl | rfl | rfl | rfl | rfl | rfl | rfl | rfl | rfl | rfl | hn
 iterate 11 exact absurd h (by simp[tyNm])
 exact⟨(zax hn).1,(zax hn).2.1,(zax hn).2.2.1,(zax hn).2.2.2.1⟩
theorem zio {t:Int}(h: ¬(tyNm t).toList= []):tyKnown t=true:=by
 rcases zav t with rfl | rfl | rfl | rfl | rfl | rfl | rfl | rfl | rfl | rfl | rfl | ⟨h1,h2,h3,h4,h5,h6,h7,h9,h10,h15,h21⟩
 iterate 11 rfl
 exfalso
 apply h;simp[tyNm,h1,h2,h3,h4,h5,h6,h7,h9,h10,h15,h21]
theorem zip {t:Int}:(¬(tyNm t).toList= []→ tyKnown t=true)∧ ((tyNm t).toList= []→ tySize t=0∧tyBits t=0∧tySigned t=false∧tyKnown t=false):=⟨zio,zin⟩
theorem ziq (t:Int)(w:World):Calls Tryz.prog 99 #[.int .i64 t] w fun e w'=>e= .returned (.bool (tyKnown t))∧ Below w.heap.size w w':=by
 have H:=zak (zip (t:=t));go_enter Tryz.func99,Tryz.ntmps99
 go_wp2_with fail
 refine (zh7 t _).mono ?_;rintro e w1 ⟨rfl,hb1⟩;go_wp2_with fail
 all_goals
  go_ret
  refine⟨zau ?_,hb1⟩
  have:=H.out.1
  have:=H.out.2
  simp_all
theorem fld1 (a b c d:Value)(w:World):(Instr.field 217 (.agg #[a,b,c,d]) 1).run Tryz.prog w= .ok b w:=by kernel_rfl
theorem fld2 (a b c d:Value)(w:World):(Instr.field 217 (.agg #[a,b,c,d]) 2).run Tryz.prog w= .ok c w:=by kernel_rfl
theorem zir (t:Int)(w:World):Calls Tryz.prog 159 #[.int .i64 t] w fun e w'=>e= .returned (.int .i64 (tyBits t))∧ Below w.heap.size w w':=by
 have hf:=fld2 (.string (tyNm t)) (.int .i64 (tySize t)) (.int .i64 (tyBits t)) (.bool (tySigned t));go_enter Tryz.func159,Tryz.ntmps159
 go_wp2_with fail
 refine (zh7 t _).mono ?_;rintro e w1 ⟨rfl,hb1⟩;go_wp2_with fail
 go_ret
 exact⟨rfl,hb1⟩
theorem zis (t:Int)(w:World):Calls Tryz.prog 202 #[.int .i64 t] w fun e w'=>e= .returned (.int .i64 (tySize t))∧ Below w.heap.size w w':=by
 have hf:=fld1 (.string (tyNm t)) (.int .i64 (tySize t)) (.int .i64 (tyBits t)) (.bool (tySigned t));go_enter Tryz.func202,Tryz.ntmps202
 go_wp2_with fail
 refine (zh7 t _).mono ?_;rintro e w1 ⟨rfl,hb1⟩;go_wp2_with fail
 go_ret
 exact⟨rfl,hb1⟩
def LimR (t:Int) (w:World) (e:Ending) (w':World):Prop:=e= .returned (.tuple #[.int .i64 (tyLow t),.int .i64 (tyHigh t),.bool (tyNum t)])∧ Below w.heap.size w w'
theorem zit {t:Int}(h:tyBits t=0):tyLow t=0∧tyHigh t=0∧tyNum t=false:=by
 have:tyNum t=false:=by simp[tyNum,h]
 rcases zav t with rfl | rfl | rfl | rfl | rfl | rfl | rfl | rfl | rfl | rfl | rfl | hn
 iterate 7 exact absurd h (by decide)
 iterate 3 exact⟨rfl,rfl,this⟩
 · exact absurd h (by decide)
 · exact⟨(zax hn).2.2.2.2.2,(zax hn).2.2.2.2.1,this⟩
theorem ziu (t:Int)(w:World):Calls Tryz.prog 97 #[.int .i64 t] w (LimR t w):=by
 by_cases h:tyBits t=0
 · have HL:=zak (zit h);have h':(tyBits t == 0)=true:=by simpa using h
   clear h;go_enter Tryz.func97,Tryz.ntmps97
   go_wp2_with fail
   refine (zh7 t _).mono ?_;rintro e w1 ⟨rfl,hb1⟩;go_wp2_with fail
   go_ret3
   obtain⟨h1,h2,h3⟩:=HL.out;exact⟨by rw[h1,h2,h3];rfl,kBl⟩
 · have hc:=zaw t h;clear h;rcases hc with rfl | rfl | rfl | rfl | rfl | rfl | rfl | rfl
   all_goals
    go_enter Tryz.func97,Tryz.ntmps97
    go_wp2_with fail
    refine (zh7 _ _).mono ?_;rintro e w1 ⟨rfl,hb1⟩;simp only[zh8,tv_s2,tv_s3,tv_s4,zib,zie,zih,zik,zh9,tv_b2,tv_b3,tv_b4,zic,zif,zii,zil,zia,tv_g2,tv_g3,tv_g4,zid,zig,zij,zim];go_wp2_with fail
    (try go_quiet (fail))
    (try go_wp2_with fail)
    (try go_ret3)
    exact⟨rfl,kBl⟩
end
section
open Go.RowKit
def DecR (t:Int) (l:List UInt8) (w:World) (e:Ending) (w':World):Prop:=e= .returned (.tuple #[.int .i64 (decV t l),.int .i64 (decE t l)])∧ Below w.heap.size w w'
theorem ziv (t:Int)(A:Option Addr)(n c:Nat)(l:List UInt8)(w:World)(hn:n=l.length)(hc:n≤c)(hl:n≤35184372088832)(hs:Sl w A (l.map bv)) :
 Calls Tryz.prog 204 #[.int .i64 t,.slice A n c] w (DecR t l w):=by
 by_cases h:tyBits t=0
 · have HL:=zak (za3 l h);have h':(tyBits t == 0)=true:=by simpa using h
   clear h;go_enter Tryz.func204,Tryz.ntmps204
   go_wp2_with fail
   refine (zh7 t _).mono ?_;rintro e w1 ⟨rfl,hb1⟩;go_wp2_with fail
   go_ret2
   obtain⟨h1,h2⟩:=HL.out;exact⟨by rw[h1,h2];rfl,kBl⟩
 have h':(tyBits t == 0)=false:=by simpa using h
 by_cases h1:(n:Int) < tySize t
 · have HL:=zak (za4 l h (by omega));clear h;go_enter Tryz.func204,Tryz.ntmps204
   go_wp2_with fail
   refine (zh7 t _).mono ?_;rintro e w1 ⟨rfl,hb1⟩;go_wp2_with fail
   go_ret2
   obtain⟨h1,h2⟩:=HL.out;exact⟨by rw[h1,h2];rfl,kBl⟩
 by_cases h2:tySize t < (n:Int)
 · have HL:=zak (za5 l h (by omega));clear h;go_enter Tryz.func204,Tryz.ntmps204
   go_wp2_with fail
   refine (zh7 t _).mono ?_;rintro e w1 ⟨rfl,hb1⟩;go_wp2_with fail
   go_ret2
   obtain⟨h1,h2⟩:=HL.out;exact⟨by rw[h1,h2];rfl,kBl⟩
 have h3:tySize t=(n:Int):=by omega
 have HW:=zak (ty_wd h);have hx:=zan l;rw[←hn] at hx;by_cases hg:tySigned t=true
 · have HL:=zak (za6 l h (by omega) hg);have HN:=zak hn;have H3:=zak h3;clear h hn h3 hx;go_enter Tryz.func204,Tryz.ntmps204
   go_wp2_with fail
   refine (zh7 t _).mono ?_;rintro e w1 ⟨rfl,hb1⟩;go_wp2_with fail
   refine (zhy A n c l (tySize t) _ HW.out HN.out H3.out hc ((hs.below hb1).alloc _)).mono ?_;rintro e w2 ⟨rfl,rfl⟩;go_wp2_with fail
   go_ret2
   obtain⟨h1,h2⟩:=HL.out;exact⟨by rw[h1,h2];rfl,kBl⟩
 · have hg':tySigned t=false:=by simpa using hg
   have HL:=zak (za7 l h (by omega) hg');have hu:=za8 h hg';have h8:1≤tySize t∧tySize t≤8:=by rcases HW.out with hw | hw | hw | hw<;>omega
   have HG:=zak (fun W (h:Sl W A (l.map bv))=> zex A n c l 0 (tySize t) W hn hc (by omega) (by omega) (by omega) h8.1 h8.2 h);have HE:=zak (show (l.drop (Int.toNat 0)).take (tySize t).toNat=l by rw[List.take_of_length_le (by simp;omega)];rfl);have hx4:n=(tySize t).toNat:=by omega
   rw[hx4] at hx;clear h hn hx4 h8 HW hg hg' h' h1 h2;obtain⟨x,hxx⟩:∃x,leN l=x:=⟨_,rfl⟩;rw[hxx] at HL hx;have HX:=zak hxx;clear hxx;rcases hu with rfl | rfl | rfl | rfl
   all_goals
    simp only[zh8,zib,zie,zih,zh9,zic,zif,zii,zia,zid,zig,zij] at HG HE h3 hx;rcases (show n=1∨n=2∨n=4 by omega) with rfl | rfl | rfl<;>first | (exfalso;revert h3;decide) | skip
   all_goals
    clear h3;simp only[p1,p2,p4] at hx;have hx':x≤4294967295:=by omega
    have HX2:=zak hx;clear hx;go_enter Tryz.func204,Tryz.ntmps204
    go_wp2_with fail
    refine (zh7 _ _).mono ?_;rintro e w1 ⟨rfl,hb1⟩;simp only[zh8,zib,zie,zih,zh9,zic,zif,zii,zia,zid,zig,zij];have hs1:=(hs.below hb1).alloc;go_wp2_with fail
    refine (HG.out _ (hs1 _)).mono ?_;rintro e w2 ⟨rfl,rfl⟩;rw[HE.out,HX.out];clear hs1;go_wp2_with fail
    all_goals
     go_ret2
     obtain⟨h1,h2⟩:=HL.out
     have:=HX2.out
     first
      | (refine⟨by rw[h1,h2,if_neg (by omega),if_neg (by omega)];rfl,kBl⟩;done)
      | (refine⟨by rw[h1,h2,if_pos (by simp at *;omega),if_pos (by simp at *;omega)];rfl,kBl⟩;done)
      | (refine⟨by rw[h1,h2,if_neg (by simp at *;omega),if_neg (by simp at *;omega)];rfl,kBl⟩;done)
theorem ziw (A:Option Addr)(n c:Nat)(l:List UInt8)(w:World)(hn:n=l.length)(hl:n≤35184372088832)(hs:Sl w A (l.map bv)) :
 Calls Tryz.prog 205 #[.slice A n c] w fun e w'=>e= .returned (.bool (printB l))∧ w=w':=by
 have HN:=zak hn;clear hn;go_enter Tryz.func205,Tryz.ntmps205
 go_wp2_with fail
 go_loop [4,7] (fun _ i=> ∃k:Nat,k≤n∧i= .int .i64 k∧Hid (∀j (hj:j < l.length),j < k→32≤(l[j]).toNat∧(l[j]).toNat≤126)) (fun _ i=>n - (intOf i).toNat)
 case atStart=>exact⟨0,by omega,rfl,zak (by intro j _ h;omega)⟩
 case round=>
  obtain⟨k,hk,rfl,HA⟩:=hrel;by_cases hlt:k < n
  · obtain⟨ad,rfl,hcell⟩:=hs.byte (j:=k) (by have:=HN.out;omega);obtain⟨b,hb⟩:∃b,b=(l[k]'(by have:=HN.out;omega)).toNat:=⟨_,rfl⟩;rw[←hb] at hcell;have HB:=zak hb;clear hb;by_cases hp:32≤b∧b≤126
    · obtain⟨hp1,hp2⟩:=hp;go_wp2_with fail
      go_round
      case rel=>
       refine⟨k+1,by omega,by go_num,zak ?_⟩;intro j hj hjk;by_cases e:j=k
       · subst e;rw[←HB.out];exact⟨hp1,hp2⟩
       · exact HA.out j hj (by omega)
      case measure=>simp[intOf];omega
    · have HP:=zak hp;rcases (show b < 32∨(32≤b∧126 < b) by omega) with hp1 | ⟨hp1,hp2⟩
      all_goals
       clear hp;go_wp2_with fail
       go_ret
       exact⟨zau (za9 l k (by have:=HN.out;omega) (by rw[←HB.out];exact HP.out)).symm,rfl⟩
  · go_wp2_with fail
    go_ret
    exact⟨zau (zba l (fun j hj=>HA.out j hj (by have:=HN.out;omega))).symm,rfl⟩
def CheckR (t mx:Int) (l:List UInt8) (w:World) (e:Ending) (w':World):Prop:=e= .returned (.int .i64 (checkE t mx l))∧ Below w.heap.size w w'
theorem zix (t mx:Int)(A:Option Addr)(n c:Nat)(l:List UInt8)(w:World)(hn:n=l.length)(hc:n≤c)(hl:n≤35184372088832)(hs:Sl w A (l.map bv)) :
 Calls Tryz.prog 161 #[.int .i64 t,.int .i64 mx,.slice A n c] w (CheckR t mx l w):=by
 have H:=zak (zip (t:=t));by_cases hk:tyKnown t=false
 · have HC:=zak (show checkE t mx l=15 by simp[checkE,hk]);have hz:(tyNm t).toList= []∧ tySize t=0∧tyBits t=0∧tySigned t=false:=by
    have h1:(tyNm t).toList= []:=by
     refine Classical.byContradiction fun h=>?_
     have:=H.out.1 h
     rw[hk] at this;cases this
    obtain⟨h2,h3,h4,_⟩:=H.out.2 h1;exact⟨h1,h2,h3,h4⟩
   obtain⟨z1,z2,z3,z4⟩:=hz;clear hk;go_enter Tryz.func161,Tryz.ntmps161
   go_wp2_with fail
   refine (zh7 t _).mono ?_;rintro e w1 ⟨rfl,hb1⟩;go_wp2_with fail
   go_ret
   exact⟨zat HC.out.symm,kBl⟩
 have hk':tyKnown t=true:=by simpa using hk
 have hz: ¬(tyNm t).toList= []:=by
  intro h
  have:=(H.out.2 h).2.2.2
  rw[hk'] at this;cases this
 by_cases hb:0 < tyBits t
 · have HC:=zak (show checkE t mx l=decE t l by simp[checkE,hk',hb]);clear hk hk';go_enter Tryz.func161,Tryz.ntmps161
   go_wp2_with fail
   refine (zh7 t _).mono ?_;rintro e w1 ⟨rfl,hb1⟩;have HD:=zak (ziv t A n c l (w1.alloc (.cells #[.string (tyNm t),.int .i64 (tySize t),.int .i64 (tyBits t),.bool (tySigned t)] 217)) hn hc hl ((hs.below hb1).alloc _));clear hn;go_wp2_with fail
   refine HD.out.mono ?_;rintro e w2 ⟨rfl,hb2⟩;go_wp2_with fail
   go_ret
   exact⟨zat HC.out.symm,kBl⟩
 have HC:=zak (show checkE t mx l=if mx < (l.length:Int)∨ 256 < l.length then 3 else if t=9∧printB l=false then 4 else 0 by simp[checkE,hk',hb]);have HN:=zak hn;clear hk hk' hn;by_cases hbig:mx < (n:Int)∨ 256 < n
 · have HB:=zak hbig;by_cases hq:256 < mx
   all_goals
    first | (have hq2:(256:Int) < (n:Int):=by omega) | (have hq2:mx < (n:Int):=by omega)
    clear hbig;go_enter Tryz.func161,Tryz.ntmps161
    go_wp2_with fail
    refine (zh7 t _).mono ?_;rintro e w1 ⟨rfl,hb1⟩;go_wp2_with fail
    go_ret
    refine⟨zat ?_,kBl⟩;rw[HC.out,if_pos (by have:=HN.out;have:=HB.out;omega)]
 · have hn1:(n:Int)≤ mx:=by omega
   have hn2:(n:Int)≤ 256:=by omega
   have HNB:Hid (¬(mx < (l.length:Int)∨ 256 < l.length)):=zak (by have:=HN.out;omega);clear hbig;by_cases h9:t=9
   · subst h9;cases hpr:printB l
     all_goals
      have HP:=zak hpr;clear hpr;by_cases hq:256 < mx
      all_goals
       go_enter Tryz.func161,Tryz.ntmps161
       go_wp2_with fail
       refine (zh7 _ _).mono ?_;rintro e w1 ⟨rfl,hb1⟩;go_wp2_with fail
       refine (ziw A n c l _ HN.out hl ((hs.below hb1).alloc _)).mono ?_;rintro e w2 ⟨rfl,rfl⟩;rw[HP.out];go_wp2_with fail
       go_ret
       refine⟨zat ?_,kBl⟩;rw[HC.out,if_neg HNB.out,HP.out]
       rfl
   · have H9:Hid (t≠9):=zak h9;have h9':(t == 9)=false:=by simpa using h9
     clear h9;by_cases hq:256 < mx
     all_goals
      go_enter Tryz.func161,Tryz.ntmps161
      go_wp2_with fail
      refine (zh7 _ _).mono ?_;rintro e w1 ⟨rfl,hb1⟩;go_wp2_with fail
      go_ret
      refine⟨zat ?_,kBl⟩;rw[HC.out,if_neg HNB.out,if_neg (fun h=>H9.out h.1)]
end
end
section
open Go.RowKit
theorem ziy (c:Nat)(w:World):Calls Tryz.prog 157 #[.int .u8 (c:Nat)] w fun e w'=>e= .returned (.bool (letterB c))∧ w=w':=by
 go_enter Tryz.func157,Tryz.ntmps157
 go_wp2_with fail
 all_goals
  go_ret
  exact⟨zau (by rw[Bool.eq_iff_iff];simp_all [letterB];try omega),rfl⟩
theorem ziz (c:Nat)(w:World):Calls Tryz.prog 158 #[.int .u8 (c:Nat)] w fun e w'=>e= .returned (.bool (innerB c))∧ w=w':=by
 cases hl:letterB c
 all_goals
  have HL:=zak hl;clear hl;go_enter Tryz.func158,Tryz.ntmps158
  go_wp2_with fail
  refine (ziy c _).mono ?_;rintro e w1 ⟨rfl,rfl⟩;rw[HL.out];go_wp2_with fail
  all_goals
   go_ret
   exact⟨zau (by have:=HL.out;rw[Bool.eq_iff_iff];simp_all [innerB];try omega),rfl⟩
theorem zi0 (s:ByteArray)(h:s.size=0):s.toList= []:=by
 rw[toList_nil_iff_emptyBytes];obtain⟨⟨l⟩⟩:=s
 have:l.length=0:=h
 rw[List.eq_nil_of_length_eq_zero this]
 rfl
theorem zi1 (s:ByteArray)(h:0 < s.size): ¬s.toList= []:=by
 rw[toList_nil_iff_emptyBytes];rintro rfl;exact absurd h (by decide)
theorem zi2 (s:ByteArray)(w:World)(hsz:s.size≤9223372036854775807):Calls Tryz.prog 98 #[.string s] w fun e w'=>e= .returned (.bool (nameB s))∧ w=w':=by
 by_cases h0:s.size=0
 · have HR:Hid (nameB s=false):=zak (by simp[nameB,h0]);have hnil:=zi0 s h0;clear h0;go_enter Tryz.func98,Tryz.ntmps98
   go_wp2_with fail
   go_ret
   exact⟨zau HR.out.symm,rfl⟩
 have hp:0 < s.size:=by omega
 have hnn:=zi1 s hp;have hne:s.toList.isEmpty=false:=by simpa using hnn
 by_cases h16:16 < s.size
 · have HR:Hid (nameB s=false):=zak (by simp[nameB];intro _ h;omega);clear h0;go_enter Tryz.func98,Tryz.ntmps98
   go_wp2_with fail
   go_ret
   exact⟨zau HR.out.symm,rfl⟩
 have h16':s.size≤16:=by omega
 cases hl:letterB (s[0]).toNat
 · have HR:Hid (nameB s=false):=zak (by simp only[nameB,zbf s hp,hl];simp);have HL:=zak hl;clear h0 hl h16;go_enter Tryz.func98,Tryz.ntmps98
   go_wp2_with fail
   refine (ziy _ _).mono ?_;rintro e w1 ⟨rfl,rfl⟩;rw[HL.out];go_wp2_with fail
   go_ret
   exact⟨zau HR.out.symm,rfl⟩
 · have HR:Hid ((∀k (hk:k < s.size),innerB (s[k]).toNat=true)→ nameB s=true):=zak (by intro h;simp only[nameB,zbf s hp,hl,zbe s h];simp[h0,h16']);have HL:=zak hl;clear h0 hl h16;go_enter Tryz.func98,Tryz.ntmps98
   go_wp2_with fail
   refine (ziy _ _).mono ?_;rintro e w1 ⟨rfl,rfl⟩;rw[HL.out];go_wp2_with fail
   go_loop [3,19] (fun _ i=> ∃k:Nat,k≤s.size∧i= .int .i64 k∧Hid (∀j (hj:j < s.size),j < k→innerB (s[j]).toNat=true)) (fun _ i=>s.size - (intOf i).toNat)
   case atStart=>exact⟨0,by omega,rfl,zak (by intro j _ h;omega)⟩
   case round=>
    obtain⟨k,hk,rfl,HA⟩:=hrel;by_cases hlt:k < s.size
    · cases hi:innerB (s[k]).toNat
      · have HI:=zak hi;clear hi;go_wp2_with fail
        refine (ziz _ _).mono ?_;rintro e w1 ⟨rfl,rfl⟩;rw[HI.out];go_wp2_with fail
        go_ret
        exact⟨zau (zbd s k hlt HI.out).symm,rfl⟩
      · have HI:=zak hi;clear hi;go_wp2_with fail
        refine (ziz _ _).mono ?_;rintro e w1 ⟨rfl,rfl⟩;rw[HI.out];go_wp2_with fail
        go_round
        case rel=>
         refine⟨k+1,by omega,by go_num,zak ?_⟩;intro j hj hjk;by_cases e:j=k
         · subst e;exact HI.out
         · exact HA.out j hj (by omega)
        case measure=>simp[intOf];omega
    · go_wp2_with fail
      go_ret
      exact⟨zau (HR.out (fun j hj=>HA.out j hj (by omega))).symm,rfl⟩
theorem zi3 (E:Ent)(A:Option Addr)(n c:Nat)(w:World):Calls Tryz.prog 100 #[.agg (entV E A n c)] w fun e w'=>e= .returned (.bool (flagsB E.acc E.st E.mp))∧ Below w.heap.size w w':=by
 obtain⟨ix,sub,nm,ty,acc,mp,st,mx,lo,hi,df⟩:=E;unfold entV;go_enter Tryz.func100,Tryz.ntmps100
 go_wp2_with fail
 all_goals (go_ret;exact⟨zau (by simp_all [flagsB]),zc5 (Below.refl _ _) _⟩)
theorem zi4 (E:Ent)(A:Option Addr)(n c:Nat)(w:World):Calls Tryz.prog 101 #[.agg (entV E A n c),.int .i64 (tyLow E.ty),.int .i64 (tyHigh E.ty)] w fun e w'=>e= .returned (.bool (numberedB E.ty E.mx E.lo E.hi))∧ Below w.heap.size w w':=by
 obtain⟨ix,sub,nm,ty,acc,mp,st,mx,lo,hi,df⟩:=E;unfold entV;go_enter Tryz.func101,Tryz.ntmps101
 go_wp2_with fail
 all_goals (go_ret;exact⟨zau (by rw[Bool.eq_iff_iff];simp_all [numberedB];try omega),zc5 (Below.refl _ _) _⟩)
theorem zi5 (E:Ent)(A:Option Addr)(n c:Nat)(w:World):Calls Tryz.prog 102 #[.agg (entV E A n c)] w fun e w'=>e= .returned (.bool (sizedB E.mp E.mx E.lo E.hi))∧ Below w.heap.size w w':=by
 obtain⟨ix,sub,nm,ty,acc,mp,st,mx,lo,hi,df⟩:=E;unfold entV;go_enter Tryz.func102,Tryz.ntmps102
 go_wp2_with fail
 all_goals (go_ret;exact⟨zau (by rw[Bool.eq_iff_iff];simp_all [sizedB];try omega),zc5 (Below.refl _ _) _⟩)
end
section
open Go.RowKit
def NumV (t lo hi:Int) (l:List UInt8):Int:=if decE t l=2 then 101122067 else if decE t l=3 then 101122066 else if decE t l≠0 then 101253168 else if decV t l < lo then 101253170 else if hi < decV t l then 101253169 else 0
theorem zi6 {t mx lo hi:Int}{l:List UInt8}(h:0 < tyBits t):valueE t mx lo hi l=NumV t lo hi l:=by
 unfold valueE;rw[zaz (by omega),if_neg (by decide),if_pos h]
 rfl
theorem zi7 {t mx lo hi:Int}{l:List UInt8}(h: ¬ 0 < tyBits t):valueE t mx lo hi l=if checkE t mx l=0 then 0 else if checkE t mx l=3 then 101122066 else if checkE t mx l=4 then 101253168 else 100925511:=by
 unfold valueE;cases hk:tyKnown t
 · rw[if_pos rfl]
   have:checkE t mx l=15:=by simp[checkE,hk]
   rw[this]
   rfl
 · rw[if_neg (by decide),if_neg h];rcases zay t mx l h hk with e | e | e<;>rw[e]<;> rfl
def ValR (E:Ent) (l:List UInt8) (w:World) (e:Ending) (w':World):Prop:=e= .returned (.int .u32 (valueE E.ty E.mx E.lo E.hi l))∧ Below w.heap.size w w'
def NumR (E:Ent) (l:List UInt8) (w:World) (e:Ending) (w':World):Prop:=e= .returned (.int .u32 (NumV E.ty E.lo E.hi l))∧ Below w.heap.size w w'
theorem zi8 (E:Ent)(A0:Option Addr)(n0 c0:Nat)(A:Option Addr)(n c:Nat)(l:List UInt8)(w:World)(hn:n=l.length)(hc:n≤c)(hl:n≤35184372088832)(hs:Sl w A (l.map bv)) :
 Calls Tryz.prog 160 #[.agg (entV E A0 n0 c0),.slice A n c] w (NumR E l w):=by
 obtain⟨ix,sub,nm,ty,acc,mp,st,mx,lo,hi,df⟩:=E;have hs1:=hs.alloc (.cells (entV ⟨ix,sub,nm,ty,acc,mp,st,mx,lo,hi,df⟩ A0 n0 c0) 90);have q:=zdg w 90 (entV ⟨ix,sub,nm,ty,acc,mp,st,mx,lo,hi,df⟩ A0 n0 c0);have HN:=zak hn;unfold entV at *
 clear hn;go_enter Tryz.func160,Tryz.ntmps160
 go_wp2_with fail
 refine (ziv ty A n c l _ HN.out hc hl hs1).mono ?_;rintro e w1 ⟨rfl,hb1⟩;have q1:=q.below hb1 q.lt;obtain⟨cF,cG,cH,cU,cV,cX,cY,cZ,da,dc,cD⟩:=zdc q1;have dh:=q1.frozen;obtain⟨v,hv⟩:∃v,v=decV ty l:=⟨_,rfl⟩;obtain⟨er,he⟩:∃er,er=decE ty l:=⟨_,rfl⟩;have HV:Hid (NumV ty lo hi l=if er=2 then 101122067 else if er=3 then 101122066 else if er≠0 then 101253168 else if v < lo then 101253170 else if hi < v then 101253169 else 0):=zak (by rw[hv,he];rfl);rw[←hv,←he];clear hv he;go_wp2_with fail
 all_goals
  go_ret
  refine⟨zat ?_,kBl⟩;show _=NumV ty lo hi l;rw[HV.out];clear HV
  simp_all
 all_goals omega
theorem zi9 (E:Ent)(A0:Option Addr)(n0 c0:Nat)(A:Option Addr)(n c:Nat)(l:List UInt8)(w:World)(hn:n=l.length)(hc:n≤c)(hl:n≤35184372088832)(hs:Sl w A (l.map bv)) :
 Calls Tryz.prog 103 #[.agg (entV E A0 n0 c0),.slice A n c] w (ValR E l w):=by
 obtain⟨ix,sub,nm,ty,acc,mp,st,mx,lo,hi,df⟩:=E;have hs1:=hs.alloc (.cells (entV ⟨ix,sub,nm,ty,acc,mp,st,mx,lo,hi,df⟩ A0 n0 c0) 90);have q:=zdg w 90 (entV ⟨ix,sub,nm,ty,acc,mp,st,mx,lo,hi,df⟩ A0 n0 c0);have HN:=zak hn;by_cases hb:0 < tyBits ty
 · have HV:Hid (valueE ty mx lo hi l=NumV ty lo hi l):=zak (zi6 hb);have HNU:=zak (fun W (h:Sl W A (l.map bv))=> zi8 ⟨ix,sub,nm,ty,acc,mp,st,mx,lo,hi,df⟩ A0 n0 c0 A n c l W hn hc hl h);unfold entV at *
   clear hn;go_enter Tryz.func103,Tryz.ntmps103
   go_wp2_with fail
   refine (zir ty _).mono ?_;rintro e w1 ⟨rfl,hb1⟩;have q1:=q.below hb1 q.lt;obtain⟨cF,cG,cH,cU,cV,cX,cY,cZ,da,dc,cD⟩:=zdc q1;have dh:=q1.frozen;go_wp2_with fail
   refine (HNU.out _ (hs1.below hb1)).mono ?_;rintro e w2 ⟨rfl,hb2⟩;go_wp2_with fail
   go_ret
   exact⟨zat HV.out.symm,kBl⟩
 · have HV:Hid (valueE ty mx lo hi l=if checkE ty mx l=0 then 0 else if checkE ty mx l=3 then 101122066 else if checkE ty mx l=4 then 101253168 else 100925511):=zak (zi7 hb);unfold entV at *
   clear hn;go_enter Tryz.func103,Tryz.ntmps103
   go_wp2_with fail
   refine (zir ty _).mono ?_;rintro e w1 ⟨rfl,hb1⟩;have q1:=q.below hb1 q.lt;obtain⟨cF,cG,cH,cU,cV,cX,cY,cZ,da,dc,cD⟩:=zdc q1;have dh:=q1.frozen;go_wp2_with fail
   refine (zix ty mx A n c l _ HN.out hc hl (hs1.below hb1)).mono ?_;rintro e w2 ⟨rfl,hb2⟩;obtain⟨er,he⟩:∃er,er=checkE ty mx l:=⟨_,rfl⟩;rw[←he] at HV ⊢;clear he;go_wp2_with fail
   all_goals
    go_ret
    refine⟨zat ?_,kBl⟩;show _=valueE ty mx lo hi l;rw[HV.out];clear HV
    simp_all
def RightR (E:Ent) (w:World) (e:Ending) (w':World):Prop:=e= .returned (.int .i64 (rightE E))∧ Below w.heap.size w w'
theorem zja (E:Ent)(A:Option Addr)(n c:Nat)(w:World)(hn:n=E.df.length)(hc:n≤c)(hl:n≤35184372088832)(hnm:E.nm.size≤9223372036854775807)(hs:Sl w A (E.df.map bv)) :
 Calls Tryz.prog 39 #[.agg (entV E A n c)] w (RightR E w):=by
 have hs1:=hs.alloc (.cells (entV E A n c) 90);have q:=zdg w 90 (entV E A n c);have HV:=zak (fun W (h:Sl W A (E.df.map bv))=> zi9 E A n c A n c E.df W hn hc hl h);have HF:=zak (fun W=>zi3 E A n c W);have HNB:=zak (fun W=>zi4 E A n c W);have HSZ:=zak (fun W=>zi5 E A n c W);by_cases hp:placeB E.ix E.sub=false
 · have HR:Hid (rightE E=9):=zak (by simp[rightE,hp]);have hp':E.ix < 1∨65535 < E.ix∨E.sub < 0∨255 < E.sub:=by simp[placeB] at hp;omega
   obtain⟨ix,sub,nm,ty,acc,mp,st,mx,lo,hi,df⟩:=E;unfold entV at *
   simp only[] at *
   clear hn hp HV HF HNB HSZ;rcases (show ix < 1∨(1≤ix∧65535 < ix)∨ (1≤ix∧ix≤65535∧sub < 0)∨ (1≤ix∧ix≤65535∧0≤sub∧255 < sub) by omega) with h | ⟨h1,h2⟩ | ⟨h1,h2,h3⟩ | ⟨h1,h2,h3,h4⟩
   all_goals
    clear hp';go_enter Tryz.func39,Tryz.ntmps39
    go_wp2_with fail
    refine (ziu ty _).mono ?_;rintro e w1 ⟨rfl,hb1⟩;have q1:=q.below hb1 q.lt;obtain⟨cF,cG,cH,cU,cV,cX,cY,cZ,da,dc,cD⟩:=zdc q1;have dh:=q1.frozen;go_wp2_with fail
    go_ret
    exact⟨zat HR.out.symm,kBl⟩
 have hp':1≤E.ix∧E.ix≤65535∧0≤E.sub∧E.sub≤255:=by simp[placeB] at hp;omega
 obtain⟨x1,x2,x3,x4⟩:=hp';have hpt:placeB E.ix E.sub=true:=by simpa using hp
 have HR:=zak (show rightE E=if nameB E.nm=false then 14 else if tyKnown E.ty=false then 15 else
  if flagsB E.acc E.st E.mp=false then 1 else if limitsB E.ty E.mp E.mx E.lo E.hi=false then 1 else if valueE E.ty E.mx E.lo E.hi E.df≠0 then 4 else 0 by unfold rightE;rw[if_neg (by rw[hpt];decide)])
 clear hp hpt hn;have bNM:∃b,b=nameB E.nm:=⟨_,rfl⟩;have bKN:∃b,b=tyKnown E.ty:=⟨_,rfl⟩;have bFL:∃b,b=flagsB E.acc E.st E.mp:=⟨_,rfl⟩;have bLI:∃b,b=limitsB E.ty E.mp E.mx E.lo E.hi:=⟨_,rfl⟩;have bVA:∃b,b=valueE E.ty E.mx E.lo E.hi E.df:=⟨_,rfl⟩;obtain⟨b1,e1⟩:=bNM;obtain⟨b2,e2⟩:=bKN;obtain⟨b3,e3⟩:=bFL;obtain⟨b4,e4⟩:=bLI;obtain⟨b5,e5⟩:=bVA;rw[←e1,←e2,←e3,←e4,←e5] at HR;have H1:=zak e1;have H2:=zak e2;have H3:=zak e3;have H4:=zak e4;have H5:=zak e5;clear e1 e2 e3 e4 e5;have HLI:Hid ((tyNum E.ty=true→numberedB E.ty E.mx E.lo E.hi=b4)∧ (tyNum E.ty=false→sizedB E.mp E.mx E.lo E.hi=b4)):=zak (by
  rw[H4.out];exact⟨fun h=>by simp[limitsB,h],fun h=>by simp[limitsB,h]⟩)
 obtain⟨ix,sub,nm,ty,acc,mp,st,mx,lo,hi,df⟩:=E;unfold entV at *
 simp only[] at *
 go_enter Tryz.func39,Tryz.ntmps39
 go_wp2_with fail
 refine (ziu ty _).mono ?_;rintro e w1 ⟨rfl,hb1⟩;have q1:=q.below hb1 q.lt;obtain⟨cF,cG,cH,cU,cV,cX,cY,cZ,da,dc,cD⟩:=zdc q1;have dh:=q1.frozen;go_wp2_with fail
 refine (zi2 nm _ hnm).mono ?_;rintro e w2 ⟨rfl,rfl⟩;rw[←H1.out];cases b1
 · go_wp2_with fail
   go_ret
   exact⟨zat HR.out.symm,kBl⟩
 go_wp2_with fail
 refine (ziq ty _).mono ?_;rintro e w2 ⟨rfl,hb2⟩;have q2:=q1.below hb2 q1.lt;have hbw2:=zc4 hb2 (zc4 hb1 (zc5 (Below.refl w.heap.size w) (.cells #[.int .i64 ix,.int .i64 sub,.string nm,.int .i64 ty,.int .i64 acc,.bool mp,.bool st,.int .i64 mx,.int .i64 lo,.int .i64 hi,.slice A n c] 90)));have hs2:=(hs1.below hb1).below hb2;clear cF cG cH cU cV cX cY cZ da dc cD dh;clear hb1 hb2 q1 q hs1;obtain⟨di,dj,dm,dY,dZ,ea,gY,gZ,hJ,ia,eR⟩:=zdc q2;have el:=q2.frozen;rw[←H2.out];cases b2
 · go_wp2_with fail
   go_ret
   exact⟨zat HR.out.symm,kBl⟩
 go_wp2_with fail
 refine (HF.out _).mono ?_;rintro e w3 ⟨rfl,hb3⟩;have q3:=q2.below hb3 q2.lt;have hbw3:=zc4 hb3 hbw2;have hs3:=hs2.below hb3;clear di dj dm dY dZ ea gY gZ hJ ia eR el;clear hbw2 hb3 hs2 q2;obtain⟨eb,ed,ee,ef,eg,eh,iG,iH,iI,iJ,fE⟩:=zdc q3;have fy:=q3.frozen;rw[←H3.out];cases b3
 · go_wp2_with fail
   go_ret
   exact⟨zat HR.out.symm,kBl⟩
 cases hnum:tyNum ty
 all_goals
  first
  | (have hli:=HLI.out.1 hnum
     have HNE:=HNB)
  | (have hli:=HLI.out.2 hnum
     have HNE:=HSZ)
  have HL:=zak hli;have HM:=zak hnum;clear hli hnum;go_wp2_with fail
  refine (HNE.out _).mono ?_;rintro e w4 ⟨rfl,hb4⟩;have q4:=q3.below hb4 q3.lt;have hbw4:=zc4 hb4 hbw3;have hs4:=hs3.below hb4;clear eb ed ee ef eg eh iG iH iI iJ fE fy;clear hbw3 hb4 hs3 q3;obtain⟨dD,dE,dF,dK,dL,dM,eo,ep,eq,et,dG⟩:=zdc q4;have ey:=q4.frozen;rw[HL.out];cases b4
  · go_wp2_with fail
    go_ret
    exact⟨zat HR.out.symm,kBl⟩
  go_wp2_with fail
  refine (HV.out _ hs4).mono ?_;rintro e w5 ⟨rfl,hb5⟩;rw[←H5.out];go_wp2_with fail
  all_goals
   go_ret
   refine⟨zat ?_,kBl⟩;rw[HR.out]
   simp_all
end
end Go.Proofs.YtkkpjbjmhaecjaaGreat
