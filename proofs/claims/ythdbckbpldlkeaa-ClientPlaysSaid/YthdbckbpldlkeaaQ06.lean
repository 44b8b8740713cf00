/- None -/
import Derived.Test.YthdbckbpldlkeaaQ05
import Derived.ChangeAlike
import Derived.Deep.DeepCutAuto
import Derived.Deep.CutBlock
namespace Go.Proofs.Ythdbckbpldlkeaa
set_option linter.unusedVariables false
set_option linter.unusedSimpArgs false
set_option linter.unnecessarySimpa false
section
open Go.RowKit
set_option maxRecDepth 100000
set_option maxHeartbeats 2000000
def Bl8 (w:World) (g:Nat) (l:List UInt8):Prop:=Blk w g 113 (l.map bv).toArray
theorem Bl8.set8 {w:World} {g:Nat} {l:List UInt8} (h:Bl8 w g l) (i:Nat) (c:UInt8):Bl8 (w.setCell ⟨g,i,none⟩ (bv c)) g (l.set i c):= by
 have:=Blk.set_ h i (bv c)
 unfold Bl8
 simpa [List.map_set] using this
theorem Bl8.at8 {w:World} {g:Nat} {l:List UInt8} (h:Bl8 w g l) (i:Nat) (hi:i < l.length):w.cell? ⟨g,i,none⟩=some (.int .u8 (l[i]).toNat)∧ w.frozen? ⟨g,i,none⟩=false:=by
 refine⟨Blk.cell h i ?_,Blk.frozen h i⟩
 simp[hi,bv]
theorem zde (at_ wd x:Nat) (g:Nat) (l:List UInt8) (w:World) (hl:l.length=8) (hx:U64 x) (hw:at_+wd≤8) (hB:Bl8 w g l) :
 Calls Try.prog 74 #[.int .i64 (at_:Nat),.int .i64 (wd:Nat),.int .u64 (x:Nat),.pointer (some ⟨g,0,none⟩)] w fun e w'=>e= .returned (.tuple #[])∧ Bl8 w' g (putL l at_ wd x)∧ w.grownBy w' (some g):= by
 have HL:=zak hl
 have HX:=zak hx
 clear hl hx
 go_enter Try.func74,Try.ntmps74
 go_wp2_with fail
 go_loopw [7,9] (fun _ i wr=> ∃ k:Nat,k≤wd∧i= .int .i64 (k:Nat)∧ Bl8 wr g (putL l at_ k x)∧ w.grownBy wr (some g)) (fun _ i _=>wd - (intOf i).toNat)
 case atStart=>exact⟨0,by omega,rfl,hB,World.grownBy.refl _ _⟩
 case round=>
  obtain⟨k,hk,rfl,hBr,hg⟩:= hrel
  by_cases hlt:k < wd
  · obtain⟨hc,hf⟩:= hBr.at8 (at_+k) (by rw[za7,HL.out];omega)
    have hi8:(at_:Int)+(k:Int) < 8:=by omega
    have hnat:((at_:Int)+(k:Int)).toNat=at_+k:=by omega
    go_wp2_with fail
    go_roundw
    case rel=>
     refine⟨k+1,by omega,by go_num,?_,zbl hg (.inl rfl) _ _⟩
     rw[za6,zc6]
     exact hBr.set8 (at_+k) _
    case measure=>simp[intOf];omega
  · go_wp2_with fail
    obtain rfl:k=wd:=by omega
    exact bodyPost_end (by kernel_rfl) rfl ⟨rfl,hBr,hg⟩
theorem zdf (b:Bool) (x y:Nat) (g:Nat) (w:World) (hx:x < 256) (hy:y < 256) (hB:Blk w g 5 #[.int .u8 (x:Nat)]) :
 Calls Try.prog 75 #[.bool b,.int .u8 (y:Nat),.pointer (some ⟨g,0,none⟩)] w fun e w'=>e= .returned (.tuple #[])∧ Blk w' g 5 #[.int .u8 ((if b=true then x ||| y else x:Nat):Int)]∧ w.grownBy w' (some g):= by
 have q0:=hB.cell 0 rfl
 have f0:=hB.frozen 0
 have HX:=zak (u8_or_nat x y hx hy)
 clear hx hy
 cases b
 · go_enter Try.func75,Try.ntmps75
   go_wp2_with fail
   exact bodyPost_end (by kernel_rfl) rfl ⟨rfl,hB,World.grownBy.refl _ _⟩
 · go_enter Try.func75,Try.ntmps75
   go_wp2_with fail
   rw[HX.out]
   exact bodyPost_end (by kernel_rfl) rfl ⟨rfl,by simpa using hB.set_ 0 _,zbl (World.grownBy.refl _ _) (.inl rfl) _ _⟩
theorem zdg (A:Option Addr) (n c:Nat) (l:List UInt8) (from_:Nat) (m:Int) (w:World) (hn:n=l.length) (hc:n≤c) (hl:n≤35184372088832) (hm:(from_:Int)+m≤n) (hs:Sl w A (l.map bv)) :
 Calls Try.prog 92 #[.slice A n c,.int .i64 (from_:Nat),.int .i64 m] w fun e w'=> ∃ A' n' c',e= .returned (.slice A' n' c')∧ zb7 w' w.heap.size A' n' c' ((l.drop from_).take m.toNat)∧ Below w.heap.size w w':=by
 by_cases h0:m≤0
 · have HZ:Hid ((l.drop from_).take m.toNat= []):= zak (by rw[show m.toNat=0 by omega];simp)
   go_enter Try.func92,Try.ntmps92
   go_wp2_with fail
   go_ret
   exact⟨none,0,0,rfl,by rw[HZ.out];exact zb7.nil _ _,Below.refl _ _⟩
 · have h1:0 < m:=by omega
   have hk:from_≤from_+m.toNat:=by omega
   have HT:=zak (((hs.cut1 (k:=from_) (c:=c) (by simp;omega)).take m.toNat))
   have hcut:=fun W=>zcc A n c from_ (from_+m.toNat) (from_:Int) ((from_:Int)+m) .i64 .i64 rfl (by omega) hk (by omega) W
   rw[show from_+m.toNat - from_=m.toNat by omega] at hcut
   have HM:Hid (m.toNat=((l.drop from_).take m.toNat).length):= zak (by simp;omega)
   have hm8:m.toNat≤140737488355328:=by omega
   have h64:(from_:Int)+m≤4611686018427387904:=by omega
   clear h0 hn hs hk
   go_enter Try.func92,Try.ntmps92
   go_wp2_with (at_builtin;refine zb8 _ rfl _ _ rfl w.heap.size none 0 0 [] rfl (zb7.nil _ _) (cutA A c from_ 1) m.toNat _ ((l.drop from_).take m.toNat) rfl HM.out (by have:=HT.out;rw[← List.map_drop,← List.map_take] at this;exact this) (by omega) (Nat.le_refl _) m.toNat (by omega) ?_;intro A3 c3 w3 hO3 _ _ hb3)
   go_ret
   exact⟨_,_,_,rfl,hO3,hb3⟩
theorem zdh (A:Option Addr) (n c:Nat) (l:List UInt8) (at_ wd:Int) (g:Nat) (w:World) (hn:n=l.length) (hc:n≤c) (hl:n≤4611686018427387904) (h0:0≤at_) (h1:at_+wd≤n) (h2:1≤wd) (h8:wd≤8) (hs:Sl w A (l.map bv)) (hB:Blk w g 32 #[.slice A n c]) :
 Calls Try.prog 90 #[.int .i64 at_,.int .i64 wd,.pointer (some ⟨g,0,none⟩)] w fun e w'=>e= .returned (.int .u64 (leN ((l.drop at_.toNat).take wd.toNat)))∧ w=w':=by
 have q0:=hB.cell 0 rfl
 have HG:=zak (zc7 A n c l at_ wd w hn hc hl h0 h1 h2 h8 hs)
 clear hn hc hl h0 h1 h2 h8 hs
 go_enter Try.func90,Try.ntmps90
 go_wp2_with fail
 refine HG.out.mono ?_
 rintro e w1 ⟨rfl,rfl⟩
 go_wp2_with fail
 go_ret
 exact⟨rfl,rfl⟩
end
section
open Go.RowKit
set_option maxRecDepth 100000
set_option maxHeartbeats 2000000
theorem zdi {k j:IntKind} {a b a' b':Int} (h1:a=a') (h2:b=b'):Ending.returned (.tuple #[.int k a,.int j b])= .returned (.tuple #[.int k a',.int j b']):= by rw[h1,h2]
theorem zdj (k:Int) (w:World):Calls Try.prog 72 #[.int .i64 k] w fun e w'=>e= .returned (.tuple #[.int .i64 (formI k),.int .u8 (firstI k)])∧ w=w':=by
 go_enter Try.func72,Try.ntmps72
 go_wp2_with fail
 all_goals
  go_ret2
  refine⟨zdi ?_ ?_,rfl⟩
  · go_light
    simp_all [formI]
  · go_light
    simp_all [firstI]
theorem zdk (f:Int) (w:World):Calls Try.prog 76 #[.int .i64 f] w fun e w'=>e= .returned (.bool (placedB f))∧ w=w':=by
 go_enter Try.func76,Try.ntmps76
 go_wp2_with fail
 all_goals (go_ret;refine⟨zav ?_,rfl⟩;go_light;simp_all [placedB])
theorem zdl (n h:Int) (w:World):Calls Try.prog 87 #[.int .i64 n,.int .i64 h] w fun e w'=>e= .returned (.bool (decide (0≤n) && decide (n≤h)))∧ w=w':=by
 go_enter Try.func87,Try.ntmps87
 go_wp2_with fail
 all_goals (go_ret;refine⟨zav ?_,rfl⟩;go_light;rw[Bool.eq_iff_iff];simp_all;try omega)
end
section
open Go.RowKit
set_option maxRecDepth 100000
set_option maxHeartbeats 2000000
def OnlyR (f:Int) (M:Ms) (A:Option Addr) (n c:Nat) (w:World) (e:Ending) (w':World):Prop:=
 e= .returned (.agg (msV (onlyM f M) (if dataB f=true then A else none) (if dataB f=true then n else 0) (if dataB f=true then c else 0)))∧ Below w.heap.size w w'
end
section
open Go.RowKit
set_option maxRecDepth 100000
set_option maxHeartbeats 2000000
theorem zdm (M:Ms) (A:Option Addr) (n c:Nat) (w:World) (hn:n=M.data.length):Calls Try.prog 89 #[.int .i64 0,.agg (msV M A n c)] w (OnlyR 0 M A n c w):= by
 obtain⟨kind,ix,sub,tg,la,cr,sz,size,code,data,sq,bl,em,sum⟩:= M
 simp only[msV] at *
 clear hn
 go_enter Try.func89,Try.ntmps89
 go_wp2_with fail
 refine (zdk 0 _).mono ?_
 rintro e w1 ⟨rfl,rfl⟩
 go_wp2_with fail
 refine bodyPost_ret (v:= .agg (msV (onlyM 0 ⟨kind,ix,sub,tg,la,cr,sz,size,code,data,sq,bl,em,sum⟩) none 0 0)) (by simp[results,Try.results89,go_sem,msV,onlyM,placedB,dataB]) rfl ⟨rfl,(by repeat' (first | with_reducible assumption | with_reducible exact Below.refl _ _ | with_reducible apply zbp | with_reducible apply zb3 | with_reducible apply zb2 | (with_reducible apply zbo;with_reducible assumption) | (with_reducible apply zb4;(first | exact Nat.le_refl _ | (simp;done) | omega))))⟩
theorem zdn (M:Ms) (A:Option Addr) (n c:Nat) (w:World) (hn:n=M.data.length):Calls Try.prog 89 #[.int .i64 1,.agg (msV M A n c)] w (OnlyR 1 M A n c w):= by
 obtain⟨kind,ix,sub,tg,la,cr,sz,size,code,data,sq,bl,em,sum⟩:= M
 simp only[msV] at *
 clear hn
 go_enter Try.func89,Try.ntmps89
 go_wp2_with fail
 refine (zdk 1 _).mono ?_
 rintro e w1 ⟨rfl,rfl⟩
 go_wp2_with fail
 go_region
 all_goals go_wp2_with fail
 refine bodyPost_ret (v:= .agg (msV (onlyM 1 ⟨kind,ix,sub,tg,la,cr,sz,size,code,data,sq,bl,em,sum⟩) none 0 0)) (by simp[results,Try.results89,go_sem,msV,onlyM,placedB,dataB]) rfl ⟨rfl,(by repeat' (first | with_reducible assumption | with_reducible exact Below.refl _ _ | with_reducible apply zbp | with_reducible apply zb3 | with_reducible apply zb2 | (with_reducible apply zbo;with_reducible assumption) | (with_reducible apply zb4;(first | exact Nat.le_refl _ | (simp;done) | omega))))⟩
theorem zdo (M:Ms) (A:Option Addr) (n c:Nat) (w:World) (hn:n=M.data.length):Calls Try.prog 89 #[.int .i64 2,.agg (msV M A n c)] w (OnlyR 2 M A n c w):= by
 obtain⟨kind,ix,sub,tg,la,cr,sz,size,code,data,sq,bl,em,sum⟩:= M
 simp only[msV] at *
 have HN:=zak hn
 rcases (show (n=0∧data= [])∨ (n≠0∧data≠ []) by rcases data with _ | ⟨a,l⟩<;> simp at hn ⊢ <;> omega) with ⟨rfl,rfl⟩ | ⟨h0,hd⟩
 · cases sz
   all_goals
    clear hn
    go_enter Try.func89,Try.ntmps89
    go_wp2_with fail
    refine (zdk 2 _).mono ?_
    rintro e w1 ⟨rfl,rfl⟩
    go_wp2_with fail
    go_region
    all_goals go_wp2_with fail
    go_region
    all_goals go_wp2_with fail
    refine bodyPost_ret (v:= .agg (msV (onlyM 2 ⟨kind,ix,sub,tg,la,_,_,size,code,[],sq,bl,em,sum⟩) A 0 c)) (by simp[results,Try.results89,go_sem,msV,onlyM,placedB,dataB]) rfl ⟨rfl,(by repeat' (first | with_reducible assumption | with_reducible exact Below.refl _ _ | with_reducible apply zbp | with_reducible apply zb3 | with_reducible apply zb2 | (with_reducible apply zbo;with_reducible assumption) | (with_reducible apply zb4;(first | exact Nat.le_refl _ | (simp;done) | omega))))⟩
 · have h0':((n:Int) == 0)=false:=by simpa using h0
   have HD:=zak hd
   clear hn h0 hd
   go_enter Try.func89,Try.ntmps89
   go_wp2_with fail
   refine (zdk 2 _).mono ?_
   rintro e w1 ⟨rfl,rfl⟩
   go_wp2_with fail
   go_region
   all_goals go_wp2_with fail
   go_region
   all_goals go_wp2_with fail
   refine bodyPost_ret (v:= .agg (msV (onlyM 2 ⟨kind,ix,sub,tg,la,cr,sz,size,code,data,sq,bl,em,sum⟩) A n c)) (by have:=HD.out;simp[results,Try.results89,go_sem,msV,onlyM,placedB,dataB,this]) rfl ⟨rfl,(by repeat' (first | with_reducible assumption | with_reducible exact Below.refl _ _ | with_reducible apply zbp | with_reducible apply zb3 | with_reducible apply zb2 | (with_reducible apply zbo;with_reducible assumption) | (with_reducible apply zb4;(first | exact Nat.le_refl _ | (simp;done) | omega))))⟩
theorem zdp (M:Ms) (A:Option Addr) (n c:Nat) (w:World) (hn:n=M.data.length):Calls Try.prog 89 #[.int .i64 3,.agg (msV M A n c)] w (OnlyR 3 M A n c w):= by
 obtain⟨kind,ix,sub,tg,la,cr,sz,size,code,data,sq,bl,em,sum⟩:= M
 simp only[msV] at *
 clear hn
 go_enter Try.func89,Try.ntmps89
 go_wp2_with fail
 refine (zdk 3 _).mono ?_
 rintro e w1 ⟨rfl,rfl⟩
 go_wp2_with fail
 go_region
 all_goals go_wp2_with fail
 refine bodyPost_ret (v:= .agg (msV (onlyM 3 ⟨kind,ix,sub,tg,la,cr,sz,size,code,data,sq,bl,em,sum⟩) A n c)) (by simp[results,Try.results89,go_sem,msV,onlyM,placedB,dataB]) rfl ⟨rfl,(by repeat' (first | with_reducible assumption | with_reducible exact Below.refl _ _ | with_reducible apply zbp | with_reducible apply zb3 | with_reducible apply zb2 | (with_reducible apply zbo;with_reducible assumption) | (with_reducible apply zb4;(first | exact Nat.le_refl _ | (simp;done) | omega))))⟩
theorem zdq (M:Ms) (A:Option Addr) (n c:Nat) (w:World) (hn:n=M.data.length):Calls Try.prog 89 #[.int .i64 4,.agg (msV M A n c)] w (OnlyR 4 M A n c w):= by
 obtain⟨kind,ix,sub,tg,la,cr,sz,size,code,data,sq,bl,em,sum⟩:= M
 simp only[msV] at *
 clear hn
 go_enter Try.func89,Try.ntmps89
 go_wp2_with fail
 refine (zdk 4 _).mono ?_
 rintro e w1 ⟨rfl,rfl⟩
 go_wp2_with fail
 go_region
 all_goals go_wp2_with fail
 refine bodyPost_ret (v:= .agg (msV (onlyM 4 ⟨kind,ix,sub,tg,la,cr,sz,size,code,data,sq,bl,em,sum⟩) none 0 0)) (by simp[results,Try.results89,go_sem,msV,onlyM,placedB,dataB]) rfl ⟨rfl,(by repeat' (first | with_reducible assumption | with_reducible exact Below.refl _ _ | with_reducible apply zbp | with_reducible apply zb3 | with_reducible apply zb2 | (with_reducible apply zbo;with_reducible assumption) | (with_reducible apply zb4;(first | exact Nat.le_refl _ | (simp;done) | omega))))⟩
end
section
open Go.RowKit
set_option maxRecDepth 100000
set_option maxHeartbeats 2000000
theorem zdr (M:Ms) (A:Option Addr) (n c:Nat) (w:World) (hn:n=M.data.length):Calls Try.prog 89 #[.int .i64 5,.agg (msV M A n c)] w (OnlyR 5 M A n c w):= by
 obtain⟨kind,ix,sub,tg,la,cr,sz,size,code,data,sq,bl,em,sum⟩:= M
 simp only[msV] at *
 clear hn
 go_enter Try.func89,Try.ntmps89
 go_wp2_with fail
 refine (zdk 5 _).mono ?_
 rintro e w1 ⟨rfl,rfl⟩
 go_wp2_with fail
 refine bodyPost_ret (v:= .agg (msV (onlyM 5 ⟨kind,ix,sub,tg,la,cr,sz,size,code,data,sq,bl,em,sum⟩) none 0 0)) (by simp[results,Try.results89,go_sem,msV,onlyM,placedB,dataB]) rfl ⟨rfl,(by repeat' (first | with_reducible assumption | with_reducible exact Below.refl _ _ | with_reducible apply zbp | with_reducible apply zb3 | with_reducible apply zb2 | (with_reducible apply zbo;with_reducible assumption) | (with_reducible apply zb4;(first | exact Nat.le_refl _ | (simp;done) | omega))))⟩
theorem zds (M:Ms) (A:Option Addr) (n c:Nat) (w:World) (hn:n=M.data.length):Calls Try.prog 89 #[.int .i64 6,.agg (msV M A n c)] w (OnlyR 6 M A n c w):= by
 obtain⟨kind,ix,sub,tg,la,cr,sz,size,code,data,sq,bl,em,sum⟩:= M
 simp only[msV] at *
 cases sz
 all_goals
  clear hn
  go_enter Try.func89,Try.ntmps89
  go_wp2_with fail
  refine (zdk 6 _).mono ?_
  rintro e w1 ⟨rfl,rfl⟩
  go_wp2_with fail
  go_region
  all_goals go_wp2_with fail
  go_region
  all_goals go_wp2_with fail
  refine bodyPost_ret (v:= .agg (msV (onlyM 6 ⟨kind,ix,sub,tg,la,cr,_,size,code,data,sq,bl,em,sum⟩) none 0 0)) (by simp[results,Try.results89,go_sem,msV,onlyM,placedB,dataB]) rfl ⟨rfl,(by repeat' (first | with_reducible assumption | with_reducible exact Below.refl _ _ | with_reducible apply zbp | with_reducible apply zb3 | with_reducible apply zb2 | (with_reducible apply zbo;with_reducible assumption) | (with_reducible apply zb4;(first | exact Nat.le_refl _ | (simp;done) | omega))))⟩
theorem zdt (M:Ms) (A:Option Addr) (n c:Nat) (w:World) (hn:n=M.data.length):Calls Try.prog 89 #[.int .i64 7,.agg (msV M A n c)] w (OnlyR 7 M A n c w):= by
 obtain⟨kind,ix,sub,tg,la,cr,sz,size,code,data,sq,bl,em,sum⟩:= M
 simp only[msV] at *
 clear hn
 go_enter Try.func89,Try.ntmps89
 go_wp2_with fail
 refine (zdk 7 _).mono ?_
 rintro e w1 ⟨rfl,rfl⟩
 go_wp2_with fail
 go_region
 all_goals go_wp2_with fail
 refine bodyPost_ret (v:= .agg (msV (onlyM 7 ⟨kind,ix,sub,tg,la,cr,sz,size,code,data,sq,bl,em,sum⟩) none 0 0)) (by simp[results,Try.results89,go_sem,msV,onlyM,placedB,dataB]) rfl ⟨rfl,(by repeat' (first | with_reducible assumption | with_reducible exact Below.refl _ _ | with_reducible apply zbp | with_reducible apply zb3 | with_reducible apply zb2 | (with_reducible apply zbo;with_reducible assumption) | (with_reducible apply zb4;(first | exact Nat.le_refl _ | (simp;done) | omega))))⟩
theorem zdu (M:Ms) (A:Option Addr) (n c:Nat) (w:World) (hn:n=M.data.length):Calls Try.prog 89 #[.int .i64 8,.agg (msV M A n c)] w (OnlyR 8 M A n c w):= by
 obtain⟨kind,ix,sub,tg,la,cr,sz,size,code,data,sq,bl,em,sum⟩:= M
 simp only[msV] at *
 clear hn
 go_enter Try.func89,Try.ntmps89
 go_wp2_with fail
 refine (zdk 8 _).mono ?_
 rintro e w1 ⟨rfl,rfl⟩
 go_wp2_with fail
 go_region
 all_goals go_wp2_with fail
 go_region
 all_goals go_wp2_with fail
 refine bodyPost_ret (v:= .agg (msV (onlyM 8 ⟨kind,ix,sub,tg,la,cr,sz,size,code,data,sq,bl,em,sum⟩) none 0 0)) (by simp[results,Try.results89,go_sem,msV,onlyM,placedB,dataB]) rfl ⟨rfl,(by repeat' (first | with_reducible assumption | with_reducible exact Below.refl _ _ | with_reducible apply zbp | with_reducible apply zb3 | with_reducible apply zb2 | (with_reducible apply zbo;with_reducible assumption) | (with_reducible apply zb4;(first | exact Nat.le_refl _ | (simp;done) | omega))))⟩
end
section
open Go.RowKit
set_option maxRecDepth 100000
set_option maxHeartbeats 2000000
theorem zdv (M:Ms) (A:Option Addr) (n c:Nat) (w:World) (hn:n=M.data.length):Calls Try.prog 89 #[.int .i64 9,.agg (msV M A n c)] w (OnlyR 9 M A n c w):= by
 obtain⟨kind,ix,sub,tg,la,cr,sz,size,code,data,sq,bl,em,sum⟩:= M
 simp only[msV] at *
 clear hn
 go_enter Try.func89,Try.ntmps89
 go_wp2_with fail
 refine (zdk 9 _).mono ?_
 rintro e w1 ⟨rfl,rfl⟩
 go_wp2_with fail
 go_region
 all_goals go_wp2_with fail
 refine bodyPost_ret (v:= .agg (msV (onlyM 9 ⟨kind,ix,sub,tg,la,cr,sz,size,code,data,sq,bl,em,sum⟩) none 0 0)) (by simp[results,Try.results89,go_sem,msV,onlyM,placedB,dataB]) rfl ⟨rfl,(by repeat' (first | with_reducible assumption | with_reducible exact Below.refl _ _ | with_reducible apply zbp | with_reducible apply zb3 | with_reducible apply zb2 | (with_reducible apply zbo;with_reducible assumption) | (with_reducible apply zb4;(first | exact Nat.le_refl _ | (simp;done) | omega))))⟩
theorem zdw (M:Ms) (A:Option Addr) (n c:Nat) (w:World) (hn:n=M.data.length):Calls Try.prog 89 #[.int .i64 10,.agg (msV M A n c)] w (OnlyR 10 M A n c w):= by
 obtain⟨kind,ix,sub,tg,la,cr,sz,size,code,data,sq,bl,em,sum⟩:= M
 simp only[msV] at *
 clear hn
 go_enter Try.func89,Try.ntmps89
 go_wp2_with fail
 refine (zdk 10 _).mono ?_
 rintro e w1 ⟨rfl,rfl⟩
 go_wp2_with fail
 refine bodyPost_ret (v:= .agg (msV (onlyM 10 ⟨kind,ix,sub,tg,la,cr,sz,size,code,data,sq,bl,em,sum⟩) none 0 0)) (by simp[results,Try.results89,go_sem,msV,onlyM,placedB,dataB]) rfl ⟨rfl,(by repeat' (first | with_reducible assumption | with_reducible exact Below.refl _ _ | with_reducible apply zbp | with_reducible apply zb3 | with_reducible apply zb2 | (with_reducible apply zbo;with_reducible assumption) | (with_reducible apply zb4;(first | exact Nat.le_refl _ | (simp;done) | omega))))⟩
theorem zdx (M:Ms) (A:Option Addr) (n c:Nat) (w:World) (hn:n=M.data.length):Calls Try.prog 89 #[.int .i64 11,.agg (msV M A n c)] w (OnlyR 11 M A n c w):= by
 obtain⟨kind,ix,sub,tg,la,cr,sz,size,code,data,sq,bl,em,sum⟩:= M
 simp only[msV] at *
 clear hn
 go_enter Try.func89,Try.ntmps89
 go_wp2_with fail
 refine (zdk 11 _).mono ?_
 rintro e w1 ⟨rfl,rfl⟩
 go_wp2_with fail
 go_region
 all_goals go_wp2_with fail
 refine bodyPost_ret (v:= .agg (msV (onlyM 11 ⟨kind,ix,sub,tg,la,cr,sz,size,code,data,sq,bl,em,sum⟩) A n c)) (by simp[results,Try.results89,go_sem,msV,onlyM,placedB,dataB]) rfl ⟨rfl,(by repeat' (first | with_reducible assumption | with_reducible exact Below.refl _ _ | with_reducible apply zbp | with_reducible apply zb3 | with_reducible apply zb2 | (with_reducible apply zbo;with_reducible assumption) | (with_reducible apply zb4;(first | exact Nat.le_refl _ | (simp;done) | omega))))⟩
end
section
open Go.RowKit
set_option maxRecDepth 100000
set_option maxHeartbeats 2000000
theorem zdy (k:Int) (M:Ms) (A:Option Addr) (n c:Nat) (w:World) (hn:n=M.data.length):Calls Try.prog 89 #[.int .i64 (formI k),.agg (msV M A n c)] w (OnlyR (formI k) M A n c w):= by
 have h:=zaw k
 generalize formI k=f at *
 rcases (show f=0∨f=1∨f=2∨f=3∨f=4∨f=5∨f=6∨f=7∨f=8∨f=9∨f=10∨f=11 by omega) with rfl | rfl | rfl | rfl | rfl | rfl | rfl | rfl | rfl | rfl | rfl | rfl
 · exact zdm M A n c w hn
 · exact zdn M A n c w hn
 · exact zdo M A n c w hn
 · exact zdp M A n c w hn
 · exact zdq M A n c w hn
 · exact zdr M A n c w hn
 · exact zds M A n c w hn
 · exact zdt M A n c w hn
 · exact zdu M A n c w hn
 · exact zdv M A n c w hn
 · exact zdw M A n c w hn
 · exact zdx M A n c w hn
end
section
open Go.RowKit
set_option maxRecDepth 100000
set_option maxHeartbeats 4000000
def GuessR (k:Int) (b:List UInt8) (w:World) (e:Ending) (w':World):Prop:=
 ∃ A' n' c',e= .returned (.agg (msV (guessM k b) A' n' c'))∧ zb7 w' w.heap.size A' n' c' (guessM k b).data∧Below w.heap.size w w'
def GuessC (k:Int) (b0 b1 b2 b3 b4 b5 b6 b7:UInt8) (W:World) (p:Value) (wx:World):Prop:=
 p= .pointer (some ⟨W.heap.size,0,none⟩)∧ Blk wx W.heap.size 63 (msV ⟨k,(leN [b1,b2]:Nat),(b3.toNat:Nat),decide (b0.toNat / 16 % 2=1),false,decide (b0.toNat / 4 % 2=1),false,leN [b4,b5,b6,b7],leN [b4,b5,b6,b7],[],0,0,0,0⟩ none 0 0)∧ Below W.heap.size W wx
theorem zdz (a b:Nat) (ha:a < 256) (hb:b < 256):(bits .and .u8 (a:Int) (b:Int) != 0)=(a &&& b != 0):= by
 rw[u8_and_nat a b ha hb]
 rw[Bool.eq_iff_iff]
 simp
theorem zd0 (b:UInt8):wrap64 (4 - wrap64 (bits BinOp.and .u8 (b.toNat / 4) 3))=((4 - b.toNat / 4 % 4:Nat):Int):= by
 have hb:=b.toNat_lt
 have h:=u8_and_nat (b.toNat / 4) 3 (by omega) (by omega)
 rw[(zbd _ hb).2.2.2.2.2.2.1] at h
 rw[show bits BinOp.and .u8 ((b.toNat:Int) / 4) 3=((b.toNat / 4 % 4:Nat):Int) from h,IntWalk.wrap64_in ((b.toNat / 4 % 4:Nat):Int) (by omega),IntWalk.wrap64_in _ (by omega)]
 omega
theorem zd1 (b:UInt8):(7 - (b.toNat:Int) / 2 % 8)=((7 - b.toNat / 2 % 8:Nat):Int):= by omega
theorem zd2 {w:World} {B n c g:Nat} {A:Option Addr} {l:List UInt8} (h:zb7 w B A n c l) (hg:g < B) (u0 u1 u2 u3 u4 u5 u6 u7 u8 u9 u10 u11 u12 u13:Value):zb7 ((((((((((((((w.setCell ⟨g,0,none⟩ u0).setCell ⟨g,1,none⟩ u1).setCell ⟨g,2,none⟩ u2).setCell ⟨g,3,none⟩ u3).setCell ⟨g,4,none⟩ u4).setCell ⟨g,5,none⟩ u5).setCell ⟨g,6,none⟩ u6).setCell ⟨g,7,none⟩ u7).setCell ⟨g,8,none⟩ u8).setCell ⟨g,9,none⟩ u9).setCell ⟨g,10,none⟩ u10).setCell ⟨g,11,none⟩ u11).setCell ⟨g,12,none⟩ u12).setCell ⟨g,13,none⟩ u13) B A n c l:=((((((((((((((h.set_ (p:=⟨g,0,none⟩) hg u0).set_ (p:=⟨g,1,none⟩) hg u1).set_ (p:=⟨g,2,none⟩) hg u2).set_ (p:=⟨g,3,none⟩) hg u3).set_ (p:=⟨g,4,none⟩) hg u4).set_ (p:=⟨g,5,none⟩) hg u5).set_ (p:=⟨g,6,none⟩) hg u6).set_ (p:=⟨g,7,none⟩) hg u7).set_ (p:=⟨g,8,none⟩) hg u8).set_ (p:=⟨g,9,none⟩) hg u9).set_ (p:=⟨g,10,none⟩) hg u10).set_ (p:=⟨g,11,none⟩) hg u11).set_ (p:=⟨g,12,none⟩) hg u12).set_ (p:=⟨g,13,none⟩) hg u13)
theorem zd3 {x:Nat} (h:x < 4294967296):IntKind.i64.wrap (x:Int)=x∧IntKind.u32.wrap (x:Int)=x∧IntKind.u64.wrap (x:Int)=x:=by
 refine⟨IntWalk.i64_in _ (by omega),?_,?_⟩
 · rw[IntKind.wrap_u32];omega
 · rw[IntKind.wrap_u64];omega
theorem zd4 (k:Int) (b0 b1 b2 b3 b4 b5 b6 b7:UInt8) (hf:formI k=0):guessM k [b0,b1,b2,b3,b4,b5,b6,b7]=onlyM 0 ⟨k,(leN [b1,b2]:Nat),(b3.toNat:Nat),decide (b0.toNat / 16 % 2=1),false,decide (b0.toNat / 4 % 2=1),false,leN [b4,b5,b6,b7],leN [b4,b5,b6,b7],[],0,0,0,0⟩:= by
 skip
 simp[guessM,preM,hf,byt,datF,datN,onlyM,placedB,dataB]
theorem zd5 (k:Int) (b0 b1 b2 b3 b4 b5 b6 b7:UInt8) (hf:formI k=1):guessM k [b0,b1,b2,b3,b4,b5,b6,b7]=onlyM 1 ⟨k,(leN [b1,b2]:Nat),(b3.toNat:Nat),decide (b0.toNat / 16 % 2=1),false,decide (b0.toNat / 4 % 2=1),false,leN [b4,b5,b6,b7],leN [b4,b5,b6,b7],[],0,0,0,0⟩:= by
 skip
 simp[guessM,preM,hf,byt,datF,datN,onlyM,placedB,dataB]
theorem zd6 (k:Int) (b0 b1 b2 b3 b4 b5 b6 b7:UInt8) (hf:formI k=2) (h2:b0.toNat / 2 % 2=1):guessM k [b0,b1,b2,b3,b4,b5,b6,b7]=onlyM 2 ⟨k,(leN [b1,b2]:Nat),(b3.toNat:Nat),decide (b0.toNat / 16 % 2=1),false,decide (b0.toNat / 4 % 2=1),decide (b0.toNat % 2=1),leN [b4,b5,b6,b7],leN [b4,b5,b6,b7],([b0,b1,b2,b3,b4,b5,b6,b7].drop 4).take (4 - b0.toNat / 4 % 4),0,0,0,0⟩:= by
 skip
 simp[guessM,preM,hf,byt,datF,datN,onlyM,placedB,dataB,h2]
theorem zd7 (k:Int) (b0 b1 b2 b3 b4 b5 b6 b7:UInt8) (hf:formI k=2) (h2: ¬ b0.toNat / 2 % 2=1):guessM k [b0,b1,b2,b3,b4,b5,b6,b7]=onlyM 2 ⟨k,(leN [b1,b2]:Nat),(b3.toNat:Nat),decide (b0.toNat / 16 % 2=1),false,decide (b0.toNat / 4 % 2=1),decide (b0.toNat % 2=1),leN [b4,b5,b6,b7],leN [b4,b5,b6,b7],[],0,0,0,0⟩:= by
 skip
 simp[guessM,preM,hf,byt,datF,datN,onlyM,placedB,dataB,h2]
theorem zd8 (k:Int) (b0 b1 b2 b3 b4 b5 b6 b7:UInt8) (hf:formI k=3):guessM k [b0,b1,b2,b3,b4,b5,b6,b7]=onlyM 3 ⟨k,(leN [b1,b2]:Nat),(b3.toNat:Nat),decide (b0.toNat / 16 % 2=1),decide (b0.toNat % 2=1),decide (b0.toNat / 4 % 2=1),false,leN [b4,b5,b6,b7],leN [b4,b5,b6,b7],([b0,b1,b2,b3,b4,b5,b6,b7].drop 1).take (7 - b0.toNat / 2 % 8),0,0,0,0⟩:= by
 skip
 simp[guessM,preM,hf,byt,datF,datN,onlyM,placedB,dataB]
theorem zd9 (k:Int) (b0 b1 b2 b3 b4 b5 b6 b7:UInt8) (hf:formI k=4):guessM k [b0,b1,b2,b3,b4,b5,b6,b7]=onlyM 4 ⟨k,(leN [b1,b2]:Nat),(b3.toNat:Nat),decide (b0.toNat / 16 % 2=1),false,decide (b0.toNat / 4 % 2=1),false,leN [b4,b5,b6,b7],leN [b4,b5,b6,b7],[],0,0,0,0⟩:= by
 skip
 simp[guessM,preM,hf,byt,datF,datN,onlyM,placedB,dataB]
theorem zea (k:Int) (b0 b1 b2 b3 b4 b5 b6 b7:UInt8) (hf:formI k=5):guessM k [b0,b1,b2,b3,b4,b5,b6,b7]=onlyM 5 ⟨k,(leN [b1,b2]:Nat),(b3.toNat:Nat),decide (b0.toNat / 16 % 2=1),false,decide (b0.toNat / 4 % 2=1),false,leN [b4,b5,b6,b7],leN [b4,b5,b6,b7],[],0,0,0,0⟩:= by
 skip
 simp[guessM,preM,hf,byt,datF,datN,onlyM,placedB,dataB]
theorem zeb (k:Int) (b0 b1 b2 b3 b4 b5 b6 b7:UInt8) (hf:formI k=6):guessM k [b0,b1,b2,b3,b4,b5,b6,b7]=onlyM 6 ⟨k,(leN [b1,b2]:Nat),(b3.toNat:Nat),decide (b0.toNat / 16 % 2=1),false,decide (b0.toNat / 4 % 2=1),decide (b0.toNat / 2 % 2=1),leN [b4,b5,b6,b7],leN [b4,b5,b6,b7],[],0,0,0,0⟩:= by
 skip
 simp[guessM,preM,hf,byt,datF,datN,onlyM,placedB,dataB]
theorem zec (k:Int) (b0 b1 b2 b3 b4 b5 b6 b7:UInt8) (hf:formI k=7):guessM k [b0,b1,b2,b3,b4,b5,b6,b7]=onlyM 7 ⟨k,(leN [b1,b2]:Nat),(b3.toNat:Nat),decide (b0.toNat / 16 % 2=1),false,decide (b0.toNat / 4 % 2=1),false,leN [b4,b5,b6,b7],leN [b4,b5,b6,b7],[],0,0,((b0.toNat:Int) / 4 % 8),leN [b1,b2]⟩:= by
 skip
 simp[guessM,preM,hf,byt,datF,datN,onlyM,placedB,dataB]
theorem zed (k:Int) (b0 b1 b2 b3 b4 b5 b6 b7:UInt8) (hf:formI k=8):guessM k [b0,b1,b2,b3,b4,b5,b6,b7]=onlyM 8 ⟨k,(leN [b1,b2]:Nat),(b3.toNat:Nat),decide (b0.toNat / 16 % 2=1),false,decide (b0.toNat / 4 % 2=1),false,leN [b4,b5,b6,b7],leN [b4,b5,b6,b7],[],0,(b4.toNat:Int),0,0⟩:= by
 skip
 simp[guessM,preM,hf,byt,datF,datN,onlyM,placedB,dataB]
theorem zee (k:Int) (b0 b1 b2 b3 b4 b5 b6 b7:UInt8) (hf:formI k=9):guessM k [b0,b1,b2,b3,b4,b5,b6,b7]=onlyM 9 ⟨k,(leN [b1,b2]:Nat),(b3.toNat:Nat),decide (b0.toNat / 16 % 2=1),false,decide (b0.toNat / 4 % 2=1),false,leN [b4,b5,b6,b7],leN [b4,b5,b6,b7],[],(b1.toNat:Int),(b2.toNat:Int),0,0⟩:= by
 skip
 simp[guessM,preM,hf,byt,datF,datN,onlyM,placedB,dataB]
theorem zef (k:Int) (b0 b1 b2 b3 b4 b5 b6 b7:UInt8) (hf:formI k=10):guessM k [b0,b1,b2,b3,b4,b5,b6,b7]=onlyM 10 ⟨k,(leN [b1,b2]:Nat),(b3.toNat:Nat),decide (b0.toNat / 16 % 2=1),false,decide (b0.toNat / 4 % 2=1),false,leN [b4,b5,b6,b7],leN [b4,b5,b6,b7],[],0,0,0,0⟩:= by
 skip
 simp[guessM,preM,hf,byt,datF,datN,onlyM,placedB,dataB]
theorem zeg (k:Int) (b0 b1 b2 b3 b4 b5 b6 b7:UInt8) (hf:formI k=11):guessM k [b0,b1,b2,b3,b4,b5,b6,b7]=onlyM 11 ⟨k,(leN [b1,b2]:Nat),(b3.toNat:Nat),decide (b0.toNat / 16 % 2=1),decide (128≤b0.toNat),decide (b0.toNat / 4 % 2=1),false,leN [b4,b5,b6,b7],leN [b4,b5,b6,b7],([b0,b1,b2,b3,b4,b5,b6,b7].drop 1).take 7,(wrap64 (bits .and .u8 (b0.toNat:Int) 127)),0,0,0⟩:= by
 have hb0:=b0.toNat_lt
 have h7:=u8_and_nat b0.toNat 127 (by omega) (by omega)
 rw[(zbd _ hb0).2.2.2.2.2.1] at h7
 rw[show wrap64 (bits .and .u8 (b0.toNat:Int) 127)=((b0.toNat % 128:Nat):Int) from (congrArg wrap64 h7).trans (IntWalk.wrap64_in _ (by omega))]
 simp[guessM,preM,hf,byt,datF,datN,onlyM,placedB,dataB]
end
end Go.Proofs.Ythdbckbpldlkeaa
