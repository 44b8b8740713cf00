/- None -/
import Derived.Test.YthdbckbpldlkeaaGreatS05
import Derived.ChangeAlike
namespace Go.Proofs.YthdbckbpldlkeaaGreat
set_option linter.unusedVariables false
set_option linter.unusedSimpArgs false
set_option linter.unnecessarySimpa false
section
open Go.RowKit
set_option maxRecDepth 100000
set_option maxHeartbeats 2000000
def Bl8 (w:World) (g:Nat) (l:List UInt8):Prop:=Blk w g 238 (l.map bv).toArray
theorem Bl8.set8 {w:World} {g:Nat} {l:List UInt8} (h:Bl8 w g l) (i:Nat) (c:UInt8):Bl8 (w.setCell ⟨g,i,none⟩ (bv c)) g (l.set i c):= by
 have:=Blk.set_ h i (bv c)
 unfold Bl8
 simpa [List.map_set] using this
theorem Bl8.at8 {w:World} {g:Nat} {l:List UInt8} (h:Bl8 w g l) (i:Nat) (hi:i < l.length):w.cell? ⟨g,i,none⟩=some (.int .u8 (l[i]).toNat)∧ w.frozen? ⟨g,i,none⟩=false:=by
 refine⟨Blk.cell h i ?_,Blk.frozen h i⟩
 simp[hi,bv]
theorem zed (at_ wd x:Nat) (g:Nat) (l:List UInt8) (w:World) (hl:l.length=8) (hx:U64 x) (hw:at_+wd≤8) (hB:Bl8 w g l) :
 Calls Tryz.prog 189 #[.int .i64 (at_:Nat),.int .i64 (wd:Nat),.int .u64 (x:Nat),.pointer (some ⟨g,0,none⟩)] w fun e w'=>e= .returned (.tuple #[])∧ Bl8 w' g (putL l at_ wd x)∧ w.grownBy w' (some g):= by
 have HL:=zak hl
 have HX:=zak hx
 clear hl hx
 go_enter Tryz.func189,Tryz.ntmps189
 go_wp2_with fail
 go_loopw [7,9] (fun _ i wr=> ∃ k:Nat,k≤wd∧i= .int .i64 (k:Nat)∧ Bl8 wr g (putL l at_ k x)∧ w.grownBy wr (some g)) (fun _ i _=>wd - (intOf i).toNat)
 case atStart=>exact⟨0,by omega,rfl,hB,World.grownBy.refl _ _⟩
 case round=>
  obtain⟨k,hk,rfl,hBr,hg⟩:= hrel
  by_cases hlt:k < wd
  · obtain⟨hc,hf⟩:= hBr.at8 (at_+k) (by rw[zco,HL.out];omega)
    have hi8:(at_:Int)+(k:Int) < 8:=by omega
    have hnat:((at_:Int)+(k:Int)).toNat=at_+k:=by omega
    go_wp2_with fail
    go_roundw
    case rel=>
     refine⟨k+1,by omega,by go_num,?_,zcy hg (.inl rfl) _ _⟩
     rw[zcn,zeb]
     exact hBr.set8 (at_+k) _
    case measure=>simp[intOf];omega
  · go_wp2_with fail
    obtain rfl:k=wd:=by omega
    exact bodyPost_end (by kernel_rfl) rfl ⟨rfl,hBr,hg⟩
theorem zee (b:Bool) (x y:Nat) (g:Nat) (w:World) (hx:x < 256) (hy:y < 256) (hB:Blk w g 5 #[.int .u8 (x:Nat)]) :
 Calls Tryz.prog 190 #[.bool b,.int .u8 (y:Nat),.pointer (some ⟨g,0,none⟩)] w fun e w'=>e= .returned (.tuple #[])∧ Blk w' g 5 #[.int .u8 ((if b=true then x ||| y else x:Nat):Int)]∧ w.grownBy w' (some g):= by
 have q0:=hB.cell 0 rfl
 have f0:=hB.frozen 0
 have HX:=zak (u8_or_nat x y hx hy)
 clear hx hy
 cases b
 · go_enter Tryz.func190,Tryz.ntmps190
   go_wp2_with fail
   exact bodyPost_end (by kernel_rfl) rfl ⟨rfl,hB,World.grownBy.refl _ _⟩
 · go_enter Tryz.func190,Tryz.ntmps190
   go_wp2_with fail
   rw[HX.out]
   exact bodyPost_end (by kernel_rfl) rfl ⟨rfl,by simpa using hB.set_ 0 _,zcy (World.grownBy.refl _ _) (.inl rfl) _ _⟩
theorem zef (A:Option Addr) (n c:Nat) (l:List UInt8) (from_:Nat) (m:Int) (w:World) (hn:n=l.length) (hc:n≤c) (hl:n≤35184372088832) (hm:(from_:Int)+m≤n) (hs:Sl w A (l.map bv)) :
 Calls Tryz.prog 239 #[.slice A n c,.int .i64 (from_:Nat),.int .i64 m] w fun e w'=> ∃ A' n' c',e= .returned (.slice A' n' c')∧ zdq w' w.heap.size A' n' c' ((l.drop from_).take m.toNat)∧ Below w.heap.size w w':=by
 by_cases h0:m≤0
 · have HZ:Hid ((l.drop from_).take m.toNat= []):= zak (by rw[show m.toNat=0 by omega];simp)
   go_enter Tryz.func239,Tryz.ntmps239
   go_wp2_with fail
   go_ret
   exact⟨none,0,0,rfl,by rw[HZ.out];exact zdq.nil _ _,Below.refl _ _⟩
 · have h1:0 < m:=by omega
   have hk:from_≤from_+m.toNat:=by omega
   have HT:=zak (((hs.cut1 (k:=from_) (c:=c) (by simp;omega)).take m.toNat))
   have hcut:=fun W=>zdu A n c from_ (from_+m.toNat) (from_:Int) ((from_:Int)+m) .i64 .i64 rfl (by omega) hk (by omega) W
   rw[show from_+m.toNat - from_=m.toNat by omega] at hcut
   have HM:Hid (m.toNat=((l.drop from_).take m.toNat).length):= zak (by simp;omega)
   have hm8:m.toNat≤140737488355328:=by omega
   have h64:(from_:Int)+m≤4611686018427387904:=by omega
   clear h0 hn hs hk
   go_enter Tryz.func239,Tryz.ntmps239
   go_wp2_with (at_builtin;refine zdr _ rfl _ _ rfl w.heap.size none 0 0 [] rfl (zdq.nil _ _) (cutA A c from_ 1) m.toNat _ ((l.drop from_).take m.toNat) rfl HM.out (by have:=HT.out;rw[← List.map_drop,← List.map_take] at this;exact this) (by omega) (Nat.le_refl _) m.toNat (by omega) ?_;intro A3 c3 w3 hO3 _ _ hb3)
   go_ret
   exact⟨_,_,_,rfl,hO3,hb3⟩
theorem zeg (A:Option Addr) (n c:Nat) (l:List UInt8) (at_ wd:Int) (g:Nat) (w:World) (hn:n=l.length) (hc:n≤c) (hl:n≤4611686018427387904) (h0:0≤at_) (h1:at_+wd≤n) (h2:1≤wd) (h8:wd≤8) (hs:Sl w A (l.map bv)) (hB:Blk w g 27 #[.slice A n c]) :
 Calls Tryz.prog 238 #[.int .i64 at_,.int .i64 wd,.pointer (some ⟨g,0,none⟩)] w fun e w'=>e= .returned (.int .u64 (leN ((l.drop at_.toNat).take wd.toNat)))∧ w=w':=by
 have q0:=hB.cell 0 rfl
 have HG:=zak (zec A n c l at_ wd w hn hc hl h0 h1 h2 h8 hs)
 clear hn hc hl h0 h1 h2 h8 hs
 go_enter Tryz.func238,Tryz.ntmps238
 go_wp2_with fail
 refine HG.out.mono ?_
 rintro e w1 ⟨rfl,rfl⟩
 go_wp2_with fail
 go_ret
 exact⟨rfl,rfl⟩
end
section
open Go.RowKit
set_option maxRecDepth 100000
set_option maxHeartbeats 2000000
theorem zeh {k j:IntKind} {a b a' b':Int} (h1:a=a') (h2:b=b'):Ending.returned (.tuple #[.int k a,.int j b])= .returned (.tuple #[.int k a',.int j b']):= by rw[h1,h2]
theorem zei (k:Int) (w:World):Calls Tryz.prog 187 #[.int .i64 k] w fun e w'=>e= .returned (.tuple #[.int .i64 (formI k),.int .u8 (firstI k)])∧ w=w':=by
 go_enter Tryz.func187,Tryz.ntmps187
 go_wp2_with fail
 all_goals
  go_ret2
  refine⟨zeh ?_ ?_,rfl⟩
  · go_light
    simp_all [formI]
  · go_light
    simp_all [firstI]
theorem zej (f:Int) (w:World):Calls Tryz.prog 191 #[.int .i64 f] w fun e w'=>e= .returned (.bool (placedB f))∧ w=w':=by
 go_enter Tryz.func191,Tryz.ntmps191
 go_wp2_with fail
 all_goals (go_ret;refine⟨zau ?_,rfl⟩;go_light;simp_all [placedB])
theorem zek (n h:Int) (w:World):Calls Tryz.prog 220 #[.int .i64 n,.int .i64 h] w fun e w'=>e= .returned (.bool (decide (0≤n) && decide (n≤h)))∧ w=w':=by
 go_enter Tryz.func220,Tryz.ntmps220
 go_wp2_with fail
 all_goals (go_ret;refine⟨zau ?_,rfl⟩;go_light;rw[Bool.eq_iff_iff];simp_all;try omega)
end
section
open Go.RowKit
set_option maxRecDepth 100000
set_option maxHeartbeats 2000000
def OnlyR (f:Int) (M:Ms) (A:Option Addr) (n c:Nat) (w:World) (e:Ending) (w':World):Prop:=
 e= .returned (.agg (msV (onlyM f M) (if dataB f=true then A else none) (if dataB f=true then n else 0) (if dataB f=true then c else 0)))∧ Below w.heap.size w w'
end
section
open Go.RowKit
set_option maxRecDepth 100000
set_option maxHeartbeats 2000000
theorem zel (M:Ms) (A:Option Addr) (n c:Nat) (w:World) (hn:n=M.data.length):Calls Tryz.prog 222 #[.int .i64 0,.agg (msV M A n c)] w (OnlyR 0 M A n c w):= by
 obtain⟨kind,ix,sub,tg,la,cr,sz,size,code,data,sq,bl,em,sum⟩:= M
 simp only[msV] at *
 clear hn
 go_enter Tryz.func222,Tryz.ntmps222
 go_wp2_with fail
 refine (zej 0 _).mono ?_
 rintro e w1 ⟨rfl,rfl⟩
 go_wp2_with fail
 refine bodyPost_ret (v:= .agg (msV (onlyM 0 ⟨kind,ix,sub,tg,la,cr,sz,size,code,data,sq,bl,em,sum⟩) none 0 0)) (by simp[results,Tryz.results222,go_sem,msV,onlyM,placedB,dataB]) rfl ⟨rfl,(by repeat' (first | with_reducible assumption | with_reducible exact Below.refl _ _ | with_reducible apply zc1 | with_reducible apply zdm | with_reducible apply zdl | (with_reducible apply zc0;with_reducible assumption) | (with_reducible apply zdn;(first | exact Nat.le_refl _ | (simp;done) | omega))))⟩
theorem zem (M:Ms) (A:Option Addr) (n c:Nat) (w:World) (hn:n=M.data.length):Calls Tryz.prog 222 #[.int .i64 1,.agg (msV M A n c)] w (OnlyR 1 M A n c w):= by
 obtain⟨kind,ix,sub,tg,la,cr,sz,size,code,data,sq,bl,em,sum⟩:= M
 simp only[msV] at *
 clear hn
 go_enter Tryz.func222,Tryz.ntmps222
 go_wp2_with fail
 refine (zej 1 _).mono ?_
 rintro e w1 ⟨rfl,rfl⟩
 go_wp2_with fail
 go_region
 all_goals go_wp2_with fail
 refine bodyPost_ret (v:= .agg (msV (onlyM 1 ⟨kind,ix,sub,tg,la,cr,sz,size,code,data,sq,bl,em,sum⟩) none 0 0)) (by simp[results,Tryz.results222,go_sem,msV,onlyM,placedB,dataB]) rfl ⟨rfl,(by repeat' (first | with_reducible assumption | with_reducible exact Below.refl _ _ | with_reducible apply zc1 | with_reducible apply zdm | with_reducible apply zdl | (with_reducible apply zc0;with_reducible assumption) | (with_reducible apply zdn;(first | exact Nat.le_refl _ | (simp;done) | omega))))⟩
theorem zen (M:Ms) (A:Option Addr) (n c:Nat) (w:World) (hn:n=M.data.length):Calls Tryz.prog 222 #[.int .i64 2,.agg (msV M A n c)] w (OnlyR 2 M A n c w):= by
 obtain⟨kind,ix,sub,tg,la,cr,sz,size,code,data,sq,bl,em,sum⟩:= M
 simp only[msV] at *
 have HN:=zak hn
 rcases (show (n=0∧data= [])∨ (n≠0∧data≠ []) by rcases data with _ | ⟨a,l⟩<;> simp at hn ⊢ <;> omega) with ⟨rfl,rfl⟩ | ⟨h0,hd⟩
 · cases sz
   all_goals
    clear hn
    go_enter Tryz.func222,Tryz.ntmps222
    go_wp2_with fail
    refine (zej 2 _).mono ?_
    rintro e w1 ⟨rfl,rfl⟩
    go_wp2_with fail
    go_region
    all_goals go_wp2_with fail
    go_region
    all_goals go_wp2_with fail
    refine bodyPost_ret (v:= .agg (msV (onlyM 2 ⟨kind,ix,sub,tg,la,_,_,size,code,[],sq,bl,em,sum⟩) A 0 c)) (by simp[results,Tryz.results222,go_sem,msV,onlyM,placedB,dataB]) rfl ⟨rfl,(by repeat' (first | with_reducible assumption | with_reducible exact Below.refl _ _ | with_reducible apply zc1 | with_reducible apply zdm | with_reducible apply zdl | (with_reducible apply zc0;with_reducible assumption) | (with_reducible apply zdn;(first | exact Nat.le_refl _ | (simp;done) | omega))))⟩
 · have h0':((n:Int) == 0)=false:=by simpa using h0
   have HD:=zak hd
   clear hn h0 hd
   go_enter Tryz.func222,Tryz.ntmps222
   go_wp2_with fail
   refine (zej 2 _).mono ?_
   rintro e w1 ⟨rfl,rfl⟩
   go_wp2_with fail
   go_region
   all_goals go_wp2_with fail
   go_region
   all_goals go_wp2_with fail
   refine bodyPost_ret (v:= .agg (msV (onlyM 2 ⟨kind,ix,sub,tg,la,cr,sz,size,code,data,sq,bl,em,sum⟩) A n c)) (by have:=HD.out;simp[results,Tryz.results222,go_sem,msV,onlyM,placedB,dataB,this]) rfl ⟨rfl,(by repeat' (first | with_reducible assumption | with_reducible exact Below.refl _ _ | with_reducible apply zc1 | with_reducible apply zdm | with_reducible apply zdl | (with_reducible apply zc0;with_reducible assumption) | (with_reducible apply zdn;(first | exact Nat.le_refl _ | (simp;done) | omega))))⟩
theorem zeo (M:Ms) (A:Option Addr) (n c:Nat) (w:World) (hn:n=M.data.length):Calls Tryz.prog 222 #[.int .i64 3,.agg (msV M A n c)] w (OnlyR 3 M A n c w):= by
 obtain⟨kind,ix,sub,tg,la,cr,sz,size,code,data,sq,bl,em,sum⟩:= M
 simp only[msV] at *
 clear hn
 go_enter Tryz.func222,Tryz.ntmps222
 go_wp2_with fail
 refine (zej 3 _).mono ?_
 rintro e w1 ⟨rfl,rfl⟩
 go_wp2_with fail
 go_region
 all_goals go_wp2_with fail
 refine bodyPost_ret (v:= .agg (msV (onlyM 3 ⟨kind,ix,sub,tg,la,cr,sz,size,code,data,sq,bl,em,sum⟩) A n c)) (by simp[results,Tryz.results222,go_sem,msV,onlyM,placedB,dataB]) rfl ⟨rfl,(by repeat' (first | with_reducible assumption | with_reducible exact Below.refl _ _ | with_reducible apply zc1 | with_reducible apply zdm | with_reducible apply zdl | (with_reducible apply zc0;with_reducible assumption) | (with_reducible apply zdn;(first | exact Nat.le_refl _ | (simp;done) | omega))))⟩
theorem zep (M:Ms) (A:Option Addr) (n c:Nat) (w:World) (hn:n=M.data.length):Calls Tryz.prog 222 #[.int .i64 4,.agg (msV M A n c)] w (OnlyR 4 M A n c w):= by
 obtain⟨kind,ix,sub,tg,la,cr,sz,size,code,data,sq,bl,em,sum⟩:= M
 simp only[msV] at *
 clear hn
 go_enter Tryz.func222,Tryz.ntmps222
 go_wp2_with fail
 refine (zej 4 _).mono ?_
 rintro e w1 ⟨rfl,rfl⟩
 go_wp2_with fail
 go_region
 all_goals go_wp2_with fail
 refine bodyPost_ret (v:= .agg (msV (onlyM 4 ⟨kind,ix,sub,tg,la,cr,sz,size,code,data,sq,bl,em,sum⟩) none 0 0)) (by simp[results,Tryz.results222,go_sem,msV,onlyM,placedB,dataB]) rfl ⟨rfl,(by repeat' (first | with_reducible assumption | with_reducible exact Below.refl _ _ | with_reducible apply zc1 | with_reducible apply zdm | with_reducible apply zdl | (with_reducible apply zc0;with_reducible assumption) | (with_reducible apply zdn;(first | exact Nat.le_refl _ | (simp;done) | omega))))⟩
end
section
open Go.RowKit
set_option maxRecDepth 100000
set_option maxHeartbeats 2000000
theorem zeq (M:Ms) (A:Option Addr) (n c:Nat) (w:World) (hn:n=M.data.length):Calls Tryz.prog 222 #[.int .i64 5,.agg (msV M A n c)] w (OnlyR 5 M A n c w):= by
 obtain⟨kind,ix,sub,tg,la,cr,sz,size,code,data,sq,bl,em,sum⟩:= M
 simp only[msV] at *
 clear hn
 go_enter Tryz.func222,Tryz.ntmps222
 go_wp2_with fail
 refine (zej 5 _).mono ?_
 rintro e w1 ⟨rfl,rfl⟩
 go_wp2_with fail
 refine bodyPost_ret (v:= .agg (msV (onlyM 5 ⟨kind,ix,sub,tg,la,cr,sz,size,code,data,sq,bl,em,sum⟩) none 0 0)) (by simp[results,Tryz.results222,go_sem,msV,onlyM,placedB,dataB]) rfl ⟨rfl,(by repeat' (first | with_reducible assumption | with_reducible exact Below.refl _ _ | with_reducible apply zc1 | with_reducible apply zdm | with_reducible apply zdl | (with_reducible apply zc0;with_reducible assumption) | (with_reducible apply zdn;(first | exact Nat.le_refl _ | (simp;done) | omega))))⟩
theorem zer (M:Ms) (A:Option Addr) (n c:Nat) (w:World) (hn:n=M.data.length):Calls Tryz.prog 222 #[.int .i64 6,.agg (msV M A n c)] w (OnlyR 6 M A n c w):= by
 obtain⟨kind,ix,sub,tg,la,cr,sz,size,code,data,sq,bl,em,sum⟩:= M
 simp only[msV] at *
 cases sz
 all_goals
  clear hn
  go_enter Tryz.func222,Tryz.ntmps222
  go_wp2_with fail
  refine (zej 6 _).mono ?_
  rintro e w1 ⟨rfl,rfl⟩
  go_wp2_with fail
  go_region
  all_goals go_wp2_with fail
  go_region
  all_goals go_wp2_with fail
  refine bodyPost_ret (v:= .agg (msV (onlyM 6 ⟨kind,ix,sub,tg,la,cr,_,size,code,data,sq,bl,em,sum⟩) none 0 0)) (by simp[results,Tryz.results222,go_sem,msV,onlyM,placedB,dataB]) rfl ⟨rfl,(by repeat' (first | with_reducible assumption | with_reducible exact Below.refl _ _ | with_reducible apply zc1 | with_reducible apply zdm | with_reducible apply zdl | (with_reducible apply zc0;with_reducible assumption) | (with_reducible apply zdn;(first | exact Nat.le_refl _ | (simp;done) | omega))))⟩
theorem zes (M:Ms) (A:Option Addr) (n c:Nat) (w:World) (hn:n=M.data.length):Calls Tryz.prog 222 #[.int .i64 7,.agg (msV M A n c)] w (OnlyR 7 M A n c w):= by
 obtain⟨kind,ix,sub,tg,la,cr,sz,size,code,data,sq,bl,em,sum⟩:= M
 simp only[msV] at *
 clear hn
 go_enter Tryz.func222,Tryz.ntmps222
 go_wp2_with fail
 refine (zej 7 _).mono ?_
 rintro e w1 ⟨rfl,rfl⟩
 go_wp2_with fail
 go_region
 all_goals go_wp2_with fail
 refine bodyPost_ret (v:= .agg (msV (onlyM 7 ⟨kind,ix,sub,tg,la,cr,sz,size,code,data,sq,bl,em,sum⟩) none 0 0)) (by simp[results,Tryz.results222,go_sem,msV,onlyM,placedB,dataB]) rfl ⟨rfl,(by repeat' (first | with_reducible assumption | with_reducible exact Below.refl _ _ | with_reducible apply zc1 | with_reducible apply zdm | with_reducible apply zdl | (with_reducible apply zc0;with_reducible assumption) | (with_reducible apply zdn;(first | exact Nat.le_refl _ | (simp;done) | omega))))⟩
theorem zet (M:Ms) (A:Option Addr) (n c:Nat) (w:World) (hn:n=M.data.length):Calls Tryz.prog 222 #[.int .i64 8,.agg (msV M A n c)] w (OnlyR 8 M A n c w):= by
 obtain⟨kind,ix,sub,tg,la,cr,sz,size,code,data,sq,bl,em,sum⟩:= M
 simp only[msV] at *
 clear hn
 go_enter Tryz.func222,Tryz.ntmps222
 go_wp2_with fail
 refine (zej 8 _).mono ?_
 rintro e w1 ⟨rfl,rfl⟩
 go_wp2_with fail
 go_region
 all_goals go_wp2_with fail
 go_region
 all_goals go_wp2_with fail
 refine bodyPost_ret (v:= .agg (msV (onlyM 8 ⟨kind,ix,sub,tg,la,cr,sz,size,code,data,sq,bl,em,sum⟩) none 0 0)) (by simp[results,Tryz.results222,go_sem,msV,onlyM,placedB,dataB]) rfl ⟨rfl,(by repeat' (first | with_reducible assumption | with_reducible exact Below.refl _ _ | with_reducible apply zc1 | with_reducible apply zdm | with_reducible apply zdl | (with_reducible apply zc0;with_reducible assumption) | (with_reducible apply zdn;(first | exact Nat.le_refl _ | (simp;done) | omega))))⟩
end
section
open Go.RowKit
set_option maxRecDepth 100000
set_option maxHeartbeats 2000000
theorem zeu (M:Ms) (A:Option Addr) (n c:Nat) (w:World) (hn:n=M.data.length):Calls Tryz.prog 222 #[.int .i64 9,.agg (msV M A n c)] w (OnlyR 9 M A n c w):= by
 obtain⟨kind,ix,sub,tg,la,cr,sz,size,code,data,sq,bl,em,sum⟩:= M
 simp only[msV] at *
 clear hn
 go_enter Tryz.func222,Tryz.ntmps222
 go_wp2_with fail
 refine (zej 9 _).mono ?_
 rintro e w1 ⟨rfl,rfl⟩
 go_wp2_with fail
 go_region
 all_goals go_wp2_with fail
 refine bodyPost_ret (v:= .agg (msV (onlyM 9 ⟨kind,ix,sub,tg,la,cr,sz,size,code,data,sq,bl,em,sum⟩) none 0 0)) (by simp[results,Tryz.results222,go_sem,msV,onlyM,placedB,dataB]) rfl ⟨rfl,(by repeat' (first | with_reducible assumption | with_reducible exact Below.refl _ _ | with_reducible apply zc1 | with_reducible apply zdm | with_reducible apply zdl | (with_reducible apply zc0;with_reducible assumption) | (with_reducible apply zdn;(first | exact Nat.le_refl _ | (simp;done) | omega))))⟩
theorem zev (M:Ms) (A:Option Addr) (n c:Nat) (w:World) (hn:n=M.data.length):Calls Tryz.prog 222 #[.int .i64 10,.agg (msV M A n c)] w (OnlyR 10 M A n c w):= by
 obtain⟨kind,ix,sub,tg,la,cr,sz,size,code,data,sq,bl,em,sum⟩:= M
 simp only[msV] at *
 clear hn
 go_enter Tryz.func222,Tryz.ntmps222
 go_wp2_with fail
 refine (zej 10 _).mono ?_
 rintro e w1 ⟨rfl,rfl⟩
 go_wp2_with fail
 refine bodyPost_ret (v:= .agg (msV (onlyM 10 ⟨kind,ix,sub,tg,la,cr,sz,size,code,data,sq,bl,em,sum⟩) none 0 0)) (by simp[results,Tryz.results222,go_sem,msV,onlyM,placedB,dataB]) rfl ⟨rfl,(by repeat' (first | with_reducible assumption | with_reducible exact Below.refl _ _ | with_reducible apply zc1 | with_reducible apply zdm | with_reducible apply zdl | (with_reducible apply zc0;with_reducible assumption) | (with_reducible apply zdn;(first | exact Nat.le_refl _ | (simp;done) | omega))))⟩
theorem zew (M:Ms) (A:Option Addr) (n c:Nat) (w:World) (hn:n=M.data.length):Calls Tryz.prog 222 #[.int .i64 11,.agg (msV M A n c)] w (OnlyR 11 M A n c w):= by
 obtain⟨kind,ix,sub,tg,la,cr,sz,size,code,data,sq,bl,em,sum⟩:= M
 simp only[msV] at *
 clear hn
 go_enter Tryz.func222,Tryz.ntmps222
 go_wp2_with fail
 refine (zej 11 _).mono ?_
 rintro e w1 ⟨rfl,rfl⟩
 go_wp2_with fail
 go_region
 all_goals go_wp2_with fail
 refine bodyPost_ret (v:= .agg (msV (onlyM 11 ⟨kind,ix,sub,tg,la,cr,sz,size,code,data,sq,bl,em,sum⟩) A n c)) (by simp[results,Tryz.results222,go_sem,msV,onlyM,placedB,dataB]) rfl ⟨rfl,(by repeat' (first | with_reducible assumption | with_reducible exact Below.refl _ _ | with_reducible apply zc1 | with_reducible apply zdm | with_reducible apply zdl | (with_reducible apply zc0;with_reducible assumption) | (with_reducible apply zdn;(first | exact Nat.le_refl _ | (simp;done) | omega))))⟩
end
section
open Go.RowKit
set_option maxRecDepth 100000
set_option maxHeartbeats 2000000
theorem zex (k:Int) (M:Ms) (A:Option Addr) (n c:Nat) (w:World) (hn:n=M.data.length):Calls Tryz.prog 222 #[.int .i64 (formI k),.agg (msV M A n c)] w (OnlyR (formI k) M A n c w):= by
 have h:=zcf k
 generalize formI k=f at *
 rcases (show f=0∨f=1∨f=2∨f=3∨f=4∨f=5∨f=6∨f=7∨f=8∨f=9∨f=10∨f=11 by omega) with rfl | rfl | rfl | rfl | rfl | rfl | rfl | rfl | rfl | rfl | rfl | rfl
 · exact zel M A n c w hn
 · exact zem M A n c w hn
 · exact zen M A n c w hn
 · exact zeo M A n c w hn
 · exact zep M A n c w hn
 · exact zeq M A n c w hn
 · exact zer M A n c w hn
 · exact zes M A n c w hn
 · exact zet M A n c w hn
 · exact zeu M A n c w hn
 · exact zev M A n c w hn
 · exact zew M A n c w hn
end
end Go.Proofs.YthdbckbpldlkeaaGreat
