/- None -/
import Derived.Test.YthdbckbpldlkeaaQ22
namespace Go.Proofs.Ythdbckbpldlkeaa
set_option linter.unusedVariables false
set_option linter.unusedSimpArgs false
set_option linter.unnecessarySimpa false
section
set_option maxHeartbeats 4000000
structure zio (S:CliS) (k:Nat):Prop where
 bl:S.b.length≤2000+7 * k
 dl:S.data.length≤2000+7 * k
 at_:0≤S.at_∧S.at_≤3000+1200 * k
 ro:0≤S.ro∧S.ro≤1000
structure zip (T:RCli) (k:Nat):Prop where
 bl:T.b.length≤2000+7 * k
 dl:T.data.length≤2000+7 * k
 ha:0≤T.ha∧T.ha≤1000 * k
 ro:0≤T.ro∧T.ro≤1000
 nx:0≤T.nx∧T.nx≤1001
theorem zim (nd:Int):zio (cliZ nd) 0:=by
 constructor<;>simp[cliZ]
theorem zin (nd:Int):zip (rcliZ nd) 0:=by
 constructor<;>simp[rcliZ]
theorem zio.mono {S:CliS} {k:Nat} (h:zio S k):zio S (k+1):= by
 obtain⟨h1,h2,⟨h3,h4⟩,h5⟩:= h
 exact⟨by omega,by omega,⟨h3,by omega⟩,h5⟩
theorem zip.mono {T:RCli} {k:Nat} (h:zip T k):zip T (k+1):= by
 obtain⟨h1,h2,⟨h3,h4⟩,h5,h6⟩:= h
 exact⟨by omega,by omega,⟨h3,by omega⟩,h5,h6⟩
theorem ziq {S:CliS} {k:Nat} (h:zio S k) (ix sub mode:Int) (b:List UInt8) (hb:b.length≤2000):zio (cWriteS S ix sub b mode) (k+1):= by
 have h':=h.mono
 unfold cWriteS cBegS
 split
 · exact h'
 split
 · constructor<;>dsimp only[List.length_nil]<;> omega
 split
 · constructor<;>dsimp only[List.length_nil]<;> omega
 · constructor<;>dsimp only[List.length_nil]<;> omega
theorem zir {S:CliS} {k:Nat} (h:zio S k) (ix sub mode:Int):zio (cReadS S ix sub mode) (k+1):= by
 have h':=h.mono
 unfold cReadS cBegS
 split
 · exact h'
 split
 · constructor<;>dsimp only[List.length_nil]<;> omega
 · constructor<;>dsimp only[List.length_nil]<;> omega
theorem zis {T:RCli} {k:Nat} (h:zip T k) (ix sub mode:Int) (b:List UInt8) (hb:b.length≤2000):zip (rWriteS T ix sub b mode) (k+1):= by
 have h':=h.mono
 unfold rWriteS rBegS
 split
 · exact h'
 split
 · constructor<;>dsimp only[List.length_nil]<;> omega
 split
 · constructor<;>dsimp only[List.length_nil]<;> omega
 · constructor<;>dsimp only[List.length_nil]<;> omega
theorem zit {T:RCli} {k:Nat} (h:zip T k) (ix sub mode:Int):zip (rReadS T ix sub mode) (k+1):= by
 have h':=h.mono
 unfold rReadS rBegS
 split
 · exact h'
 split
 · constructor<;>dsimp only[List.length_nil]<;> omega
 · constructor<;>dsimp only[List.length_nil]<;> omega
theorem ziu {S:CliS} {k:Nat} (h:zio S k) (c:Nat) (b:List UInt8) (hb:b.length≤2000+7 * k):zio (cEnd S c b) k:=⟨h.bl,hb,h.at_,h.ro⟩
theorem ziv {T:RCli} {k:Nat} (h:zip T k) (c:Nat) (b:List UInt8) (hb:b.length≤2000+7 * k):zip (rEnds T c b) k:=⟨h.bl,hb,h.ha,h.ro,h.nx⟩
theorem ziw {S:CliS} {k:Nat} (h:zio S (k+1)):zio (cSegS S) (k+1):= by
 have h0:=h
 obtain⟨hb,hd,⟨ha1,ha2⟩,hr⟩:= h
 unfold cSegS
 split
 · exact ziu h0 _ _ (by simp)
 · refine⟨hb,hd,?_,hr⟩
   show 0≤(if cLa S=true then cTo S+1 else cTo S)∧ (if cLa S=true then cTo S+1 else cTo S)≤ 3000+1200 * ((k+1:Nat):Int)
   unfold cTo
   split<;>omega
theorem zix {S:CliS} {k:Nat} (h:zio S k) (most:Int) (hm:0≤most∧most≤1000):zio (cRowsS S most) k:=by
 obtain⟨hb,hd,ha,hr⟩:= h
 unfold cRowsS
 split
 · exact⟨hb,hd,ha,hr⟩
 · refine⟨hb,hd,ha,?_⟩
   show 0≤cRowN S most∧cRowN S most≤1000
   unfold cRowN
   omega
theorem ziy {S:CliS} {k:Nat} {b:List UInt8} (h:zio S k) (hb:b.length≤7):(S.b ++ b).length≤2000+7 * (k+1):= by
 have:=h.bl
 rw[List.length_append]
 omega
theorem ziz {T:RCli} {k:Nat} {b:List UInt8} (h:zip T k) (hb:b.length≤7):(T.b ++ b).length≤2000+7 * (k+1):= by
 have:=h.bl
 rw[List.length_append]
 omega
theorem zi0 {S:CliS} {M:Ms} {k:Nat} (h:zio S k) (hM:MsB M):zio (cStepS S M) (k+1):= by
 have h1:=h.mono
 have hAd:=ziy h hM.dl
 obtain⟨hb,hd,⟨ha1,ha2⟩,hr1,hr2⟩:= h
 obtain⟨_,m1,⟨m2,m3⟩,m4,⟨m5,m6⟩,⟨m7,m8⟩,m9⟩:= hM
 have hap:zio (cPcA S M) (k+1):= ⟨hAd,h1.dl,h1.at_,h1.ro⟩
 have htk:zio (cTkA S M) (k+1):= by
  unfold cTkA
  split
  · refine⟨hAd,h1.dl,h1.at_,?_⟩
    show 0≤S.ro+1∧S.ro+1≤1000
    omega
  · exact h1
 unfold cStepS
 split
 · exact ziw h1
 split
 · exact ziw ⟨h1.bl,h1.dl,h1.at_,h1.ro⟩
 split
 · split
   · exact ziu (S:=cExp S M) ⟨h1.bl,h1.dl,h1.at_,h1.ro⟩ _ _ (by omega)
   · exact⟨h1.bl,h1.dl,h1.at_,h1.ro⟩
 split
 · unfold cPcS
   split
   · exact⟨hap.bl,hap.dl,hap.at_,hap.ro⟩
   split
   · exact ziu hap _ _ (by simp)
   · exact ziu (S:=cPcA S M) hap _ _ hAd
 split
 · exact zix h1 _ ⟨m5,m6⟩
 split
 · refine zix (S:={ S with at_:=S.at_+M.sq }) ⟨h1.bl,h1.dl,?_,h1.ro⟩ _ ⟨m5,m6⟩
   show 0≤S.at_+M.sq∧S.at_+M.sq≤3000+1200 * ((k+1:Nat):Int)
   omega
 split
 · exact⟨h1.bl,h1.dl,h1.at_,h1.ro⟩
 split
 · unfold cTkS
   split
   · exact htk
   · exact⟨htk.bl,htk.dl,htk.at_,⟨Int.le_refl _,by show (0:Int)≤ 1000;decide⟩⟩
 split
 · unfold cLsS
   split
   · exact ziu h1 _ _ (by simp)
   · exact ziu h1 _ _ (by unfold cLsB;rw[List.length_take];omega)
 · exact ziu h1 _ _ (by simp)
theorem zi1 {T:RCli} {k:Nat} (h:zip T k):zip (rSegS T) k:=by
 refine⟨?_,h.dl,h.ha,h.ro,h.nx⟩
 show (T.b.drop _).length≤_
 have:=h.bl
 rw[List.length_drop]
 omega
theorem zi2 {T:RCli} {k:Nat} (h:zip T k) (most:Int) (hm:0≤most∧most≤1000):zip (rRowS T most) k:=by
 refine⟨h.bl,h.dl,h.ha,?_,h.nx⟩
 show 0≤rRowN T most∧rRowN T most≤1000
 unfold rRowN
 omega
theorem zi3 {T:RCli} {M:Ms} {k:Nat} (h:zip T k) (hM:MsB M):zip (rGoS T M) (k+1):= by
 have h1:=h.mono
 have hAd:=ziz h hM.dl
 obtain⟨hb,hd,⟨ha1,ha2⟩,⟨hr1,hr2⟩,hn1,hn2⟩:= h
 obtain⟨_,m1,⟨m2,m3⟩,m4,⟨m5,m6⟩,⟨m7,m8⟩,m9⟩:= hM
 have hha:0≤T.ha+M.sq∧T.ha+M.sq≤1000 * ((k+1:Nat):Int):= by omega
 have hua:zip (rUpA T M) (k+1):= by
  unfold rUpA
  split
  · exact⟨h1.bl,h1.dl,h1.ha,h1.ro,h1.nx⟩
  · exact⟨hAd,h1.dl,h1.ha,h1.ro,h1.nx⟩
 have htk:zip (rTkA T M) (k+1):= by
  unfold rTkA
  split
  · refine⟨hAd,h1.dl,h1.ha,h1.ro,?_⟩
    show 0≤T.nx+1∧T.nx+1≤1001
    omega
  · exact h1
 unfold rGoS
 split
 · split
   · exact ziv h1 _ _ (by simp)
   · exact zi1 h1
 split
 · split
   · exact ziv h1 _ _ (by simp)
   · exact zi1 ⟨h1.bl,h1.dl,h1.ha,h1.ro,h1.nx⟩
 split
 · unfold rUpS
   split
   · exact ziv h1 _ _ (by omega)
   split
   · split
     · exact ziv hua _ _ (by simp)
     · exact ziv hua _ _ hAd
   · exact⟨hua.bl,hua.dl,hua.ha,hua.ro,hua.nx⟩
 split
 · exact zi2 h1 _ ⟨m5,m6⟩
 split
 · split
   · exact zi2 (T:={ T with ha:=T.ha+M.sq }) ⟨h1.bl,h1.dl,hha,h1.ro,h1.nx⟩ _ ⟨m5,m6⟩
   · exact⟨h1.bl,h1.dl,hha,h1.ro,h1.nx⟩
 split
 · exact ziv h1 _ _ (by simp)
 split
 · exact⟨h1.bl,h1.dl,h1.ha,h1.ro,h1.nx⟩
 split
 · unfold rTkS
   split
   · exact htk
   · exact⟨htk.bl,htk.dl,htk.ha,htk.ro,⟨by show (0:Int)≤ 1;decide,by show (1:Int)≤ 1001;decide⟩⟩
 · unfold rEndS
   split
   · exact ziv h1 _ _ (by simp)
   · exact ziv h1 _ _ (by unfold rEndB;rw[List.length_take];omega)
theorem zi4 {S:CliS} {T:RCli} {k:Nat} (hA:zht S T) (h:zio S k) (h2:zip T k) (f:Frm):zio (cRecvS S f) (k+1)∧ zip (rRecvS T f) (k+1):= by
 have hks:rKs T f.data=cKs S f.data:=by unfold rKs cKs;rw[hA.wk]
 have z:∀ c,zio (cEnd S c []) (k+1):= fun c=>by
  obtain⟨hb,hd,⟨ha1,ha2⟩,hr⟩:= h
  constructor<;>dsimp only[cEnd,List.length_nil]<;> omega
 have z2:∀ c,zip (rEnds T c []) (k+1):= fun c=>by
  obtain⟨hb,hd,⟨ha1,ha2⟩,hr,hn⟩:= h2
  constructor<;>dsimp only[rEnds,List.length_nil]<;> omega
 unfold cRecvS rRecvS
 rw[hks]
 constructor
 · split
   · exact h.mono
   split
   · exact z _
   split
   · exact z _
   · rename_i h0 h1 h3
     have he:errI (cKs S f.data) f.data=0:=by
      rcases Int.decEq (errI (cKs S f.data) f.data) 0 with hh | hh
      · exact absurd (.inl hh) h3
      · exact hh
     exact zi0 h (zh4 S _ he (fun hk=>h1 ⟨he,hk⟩))
 · split
   · exact h2.mono
   split
   · exact z2 _
   split
   · exact z2 _
   · rename_i h0 h1 h3
     have he:errI (cKs S f.data) f.data=0:=by
      rcases Int.decEq (errI (cKs S f.data) f.data) 0 with hh | hh
      · exact absurd (.inl hh) h3
      · exact hh
     exact zi3 h2 (zh4 S _ he (fun hk=>h1 ⟨he,hk⟩))
theorem zio.clb {S:CliS} {T:RCli} {k:Nat} (hA:zht S T) (h:zio S k) (hk:k≤60):0≤S.wk∧S.wk≤21∧(S.wk≠0→ClB S):= by
 obtain⟨hb,hd,⟨ha1,ha2⟩,hr⟩:= h
 have hw:=hA.wks
 refine⟨by omega,by omega,fun h0=>⟨by omega,hA.dz h0,by omega,by omega,by omega⟩⟩
end
section
open Go.RowKit Go.Maps
theorem zi5 {G:Nat→Prop} {p m:Nat} (S:CliS) (ix sub mode:Int) (b:List UInt8) (A:Option Addr) (n c:Nat) (w:World) (hS:CV_ w G p m S) (hw:0≤S.wk∧S.wk≤21) (hn:n=b.length) (hl:b.length≤100000) (hs:∀ W',zcd (fun q=>q=p∨q=m∨G q) w W'→Sl W' A (b.map bv)) :
 Calls Try.prog 10 #[.pointer (some ⟨p,0,none⟩),.int .i64 ix,.int .i64 sub,.slice A n c,.int .i64 mode] w (zf4 w G p m (cWriteS S ix sub b mode) (cWriteL S ix sub b mode)):= by
 by_cases hb:cBegB ix sub mode=false
 · exact zie S ix sub mode b A n c w hS hb
 · have hb':cBegB ix sub mode=true:=by
    cases h:cBegB ix sub mode
    · exact absurd h hb
    · rfl
   obtain⟨_,_,_,_,h5,h6⟩:= zhv hb
   have hm:mode=0∨mode=1∨mode=2:=by omega
   rcases hm with rfl | rfl | rfl
   · by_cases hq:b.length=0
     · exact zih S ix sub b A n c w hS hw hn hl hq hb' hs
     by_cases hq4:4 < b.length
     · exact zii S ix sub b A n c w hS hw hn hl hq4 hb' hs
     · exact zic S ix sub b A n c w hS hw hn ⟨by omega,by omega⟩ hb' hs
   · exact zig S ix sub b A n c w hS hw hn hl hb' hs
   · exact zij S ix sub b A n c w hS hw hn hl hb' hs
theorem zi6 {G:Nat→Prop} {p m:Nat} (S:CliS) (ix sub mode:Int) (w:World) (hS:CV_ w G p m S) (hw:0≤S.wk∧S.wk≤21) :
 Calls Try.prog 14 #[.pointer (some ⟨p,0,none⟩),.int .i64 ix,.int .i64 sub,.int .i64 mode] w (zf4 w G p m (cReadS S ix sub mode) (cReadL S ix sub mode)):= by
 by_cases hb:cBegB ix sub mode=false
 · exact zif S ix sub mode w hS hb
 · have hb':cBegB ix sub mode=true:=by
    cases h:cBegB ix sub mode
    · exact absurd h hb
    · rfl
   by_cases hm:mode=2
   · subst hm
     exact zik S ix sub w hS hw hb'
   · exact zil S ix sub mode w hS hw hm hb'
end
section
open Go.RowKit
set_option maxRecDepth 100000
set_option maxHeartbeats 4000000
def NamedR (k:Int) (M:Ms) (A:Option Addr) (n c:Nat) (w:World) (e:Ending) (w':World):Prop:=
 e= .returned (.agg (msV (onlyM (formI k) M) (if dataB (formI k)=true then A else none) (if dataB (formI k)=true then n else 0) (if dataB (formI k)=true then c else 0)))∧ Below w.heap.size w w'
end
section
open Go.RowKit
set_option maxRecDepth 100000
set_option maxHeartbeats 4000000
theorem zi7 (M:Ms) (A:Option Addr) (n c:Nat) (w:World) (hn:n=M.data.length) (hk:M.kind=1):Calls Try.prog 95 #[.agg (msV M A n c)] w (NamedR 1 M A n c w):= by
 obtain⟨kind,ix,sub,tg,la,cr,sz,size,code,data,sq,bl,em,sum⟩:= M
 obtain rfl:kind=1:=hk
 simp only[msV] at *
 clear hn
 go_enter Try.func95,Try.ntmps95
 go_wp2_with fail
 refine bodyPost_ret (v:= .agg (msV (onlyM (formI 1) ⟨1,ix,sub,tg,la,cr,sz,size,code,data,sq,bl,em,sum⟩) none 0 0)) (by simp[results,Try.results95,go_sem,msV,onlyM,placedB,dataB,formI]) rfl ⟨rfl,(by repeat' (first | with_reducible assumption | with_reducible exact Below.refl _ _ | with_reducible apply zbp | with_reducible apply zb3 | with_reducible apply zb2 | (with_reducible apply zbo;with_reducible assumption) | (with_reducible apply zb4;(first | exact Nat.le_refl _ | (simp;done) | omega))))⟩
theorem zi8 (M:Ms) (A:Option Addr) (n c:Nat) (w:World) (hn:n=M.data.length) (hk:M.kind=2):Calls Try.prog 95 #[.agg (msV M A n c)] w (NamedR 2 M A n c w):= by
 obtain⟨kind,ix,sub,tg,la,cr,sz,size,code,data,sq,bl,em,sum⟩:= M
 obtain rfl:kind=2:=hk
 simp only[msV] at *
 have HN:=zak hn
 rcases (show (n=0∧data= [])∨ (n≠0∧data≠ []) by rcases data with _ | ⟨a,l⟩<;> simp at hn ⊢ <;> omega) with ⟨rfl,rfl⟩ | ⟨h0,hd⟩
 · cases sz
   all_goals
    clear hn
    go_enter Try.func95,Try.ntmps95
    go_wp2_with fail
    refine bodyPost_ret (v:= .agg (msV (onlyM (formI 2) ⟨2,ix,sub,tg,la,cr,_,size,code,[],sq,bl,em,sum⟩) A 0 c)) (by simp[results,Try.results95,go_sem,msV,onlyM,placedB,dataB,formI]) rfl ⟨rfl,(by repeat' (first | with_reducible assumption | with_reducible exact Below.refl _ _ | with_reducible apply zbp | with_reducible apply zb3 | with_reducible apply zb2 | (with_reducible apply zbo;with_reducible assumption) | (with_reducible apply zb4;(first | exact Nat.le_refl _ | (simp;done) | omega))))⟩
 · have h0':((n:Int) == 0)=false:=by simpa using h0
   have HD:=zak hd
   clear hn h0 hd
   cases sz
   all_goals
    go_enter Try.func95,Try.ntmps95
    go_wp2_with fail
    refine bodyPost_ret (v:= .agg (msV (onlyM (formI 2) ⟨2,ix,sub,tg,la,cr,_,size,code,data,sq,bl,em,sum⟩) A n c)) (by simp[results,Try.results95,go_sem,msV,onlyM,placedB,dataB,formI,HD.out]) rfl ⟨rfl,(by repeat' (first | with_reducible assumption | with_reducible exact Below.refl _ _ | with_reducible apply zbp | with_reducible apply zb3 | with_reducible apply zb2 | (with_reducible apply zbo;with_reducible assumption) | (with_reducible apply zb4;(first | exact Nat.le_refl _ | (simp;done) | omega))))⟩
theorem zi9 (M:Ms) (A:Option Addr) (n c:Nat) (w:World) (hn:n=M.data.length) (hk:M.kind=14):Calls Try.prog 95 #[.agg (msV M A n c)] w (NamedR 14 M A n c w):= by
 obtain⟨kind,ix,sub,tg,la,cr,sz,size,code,data,sq,bl,em,sum⟩:= M
 obtain rfl:kind=14:=hk
 simp only[msV] at *
 have HN:=zak hn
 rcases (show (n=0∧data= [])∨ (n≠0∧data≠ []) by rcases data with _ | ⟨a,l⟩<;> simp at hn ⊢ <;> omega) with ⟨rfl,rfl⟩ | ⟨h0,hd⟩
 · cases sz
   all_goals
    clear hn
    go_enter Try.func95,Try.ntmps95
    go_wp2_with fail
    refine bodyPost_ret (v:= .agg (msV (onlyM (formI 14) ⟨14,ix,sub,tg,la,cr,_,size,code,[],sq,bl,em,sum⟩) A 0 c)) (by simp[results,Try.results95,go_sem,msV,onlyM,placedB,dataB,formI]) rfl ⟨rfl,(by repeat' (first | with_reducible assumption | with_reducible exact Below.refl _ _ | with_reducible apply zbp | with_reducible apply zb3 | with_reducible apply zb2 | (with_reducible apply zbo;with_reducible assumption) | (with_reducible apply zb4;(first | exact Nat.le_refl _ | (simp;done) | omega))))⟩
 · have h0':((n:Int) == 0)=false:=by simpa using h0
   have HD:=zak hd
   clear hn h0 hd
   cases sz
   all_goals
    go_enter Try.func95,Try.ntmps95
    go_wp2_with fail
    refine bodyPost_ret (v:= .agg (msV (onlyM (formI 14) ⟨14,ix,sub,tg,la,cr,_,size,code,data,sq,bl,em,sum⟩) A n c)) (by simp[results,Try.results95,go_sem,msV,onlyM,placedB,dataB,formI,HD.out]) rfl ⟨rfl,(by repeat' (first | with_reducible assumption | with_reducible exact Below.refl _ _ | with_reducible apply zbp | with_reducible apply zb3 | with_reducible apply zb2 | (with_reducible apply zbo;with_reducible assumption) | (with_reducible apply zb4;(first | exact Nat.le_refl _ | (simp;done) | omega))))⟩
theorem zja (M:Ms) (A:Option Addr) (n c:Nat) (w:World) (hn:n=M.data.length) (hk:M.kind=3):Calls Try.prog 95 #[.agg (msV M A n c)] w (NamedR 3 M A n c w):= by
 obtain⟨kind,ix,sub,tg,la,cr,sz,size,code,data,sq,bl,em,sum⟩:= M
 obtain rfl:kind=3:=hk
 simp only[msV] at *
 clear hn
 go_enter Try.func95,Try.ntmps95
 go_wp2_with fail
 refine bodyPost_ret (v:= .agg (msV (onlyM (formI 3) ⟨3,ix,sub,tg,la,cr,sz,size,code,data,sq,bl,em,sum⟩) A n c)) (by simp[results,Try.results95,go_sem,msV,onlyM,placedB,dataB,formI]) rfl ⟨rfl,(by repeat' (first | with_reducible assumption | with_reducible exact Below.refl _ _ | with_reducible apply zbp | with_reducible apply zb3 | with_reducible apply zb2 | (with_reducible apply zbo;with_reducible assumption) | (with_reducible apply zb4;(first | exact Nat.le_refl _ | (simp;done) | omega))))⟩
end
section
open Go.RowKit
set_option maxRecDepth 100000
set_option maxHeartbeats 4000000
theorem zjb (M:Ms) (A:Option Addr) (n c:Nat) (w:World) (hn:n=M.data.length) (hk:M.kind=15):Calls Try.prog 95 #[.agg (msV M A n c)] w (NamedR 15 M A n c w):= by
 obtain⟨kind,ix,sub,tg,la,cr,sz,size,code,data,sq,bl,em,sum⟩:= M
 obtain rfl:kind=15:=hk
 simp only[msV] at *
 clear hn
 go_enter Try.func95,Try.ntmps95
 go_wp2_with fail
 refine bodyPost_ret (v:= .agg (msV (onlyM (formI 15) ⟨15,ix,sub,tg,la,cr,sz,size,code,data,sq,bl,em,sum⟩) A n c)) (by simp[results,Try.results95,go_sem,msV,onlyM,placedB,dataB,formI]) rfl ⟨rfl,(by repeat' (first | with_reducible assumption | with_reducible exact Below.refl _ _ | with_reducible apply zbp | with_reducible apply zb3 | with_reducible apply zb2 | (with_reducible apply zbo;with_reducible assumption) | (with_reducible apply zb4;(first | exact Nat.le_refl _ | (simp;done) | omega))))⟩
theorem zjc (M:Ms) (A:Option Addr) (n c:Nat) (w:World) (hn:n=M.data.length) (hk:M.kind=4):Calls Try.prog 95 #[.agg (msV M A n c)] w (NamedR 4 M A n c w):= by
 obtain⟨kind,ix,sub,tg,la,cr,sz,size,code,data,sq,bl,em,sum⟩:= M
 obtain rfl:kind=4:=hk
 simp only[msV] at *
 clear hn
 go_enter Try.func95,Try.ntmps95
 go_wp2_with fail
 refine bodyPost_ret (v:= .agg (msV (onlyM (formI 4) ⟨4,ix,sub,tg,la,cr,sz,size,code,data,sq,bl,em,sum⟩) none 0 0)) (by simp[results,Try.results95,go_sem,msV,onlyM,placedB,dataB,formI]) rfl ⟨rfl,(by repeat' (first | with_reducible assumption | with_reducible exact Below.refl _ _ | with_reducible apply zbp | with_reducible apply zb3 | with_reducible apply zb2 | (with_reducible apply zbo;with_reducible assumption) | (with_reducible apply zb4;(first | exact Nat.le_refl _ | (simp;done) | omega))))⟩
theorem zjd (M:Ms) (A:Option Addr) (n c:Nat) (w:World) (hn:n=M.data.length) (hk:M.kind=12):Calls Try.prog 95 #[.agg (msV M A n c)] w (NamedR 12 M A n c w):= by
 obtain⟨kind,ix,sub,tg,la,cr,sz,size,code,data,sq,bl,em,sum⟩:= M
 obtain rfl:kind=12:=hk
 simp only[msV] at *
 clear hn
 go_enter Try.func95,Try.ntmps95
 go_wp2_with fail
 refine bodyPost_ret (v:= .agg (msV (onlyM (formI 12) ⟨12,ix,sub,tg,la,cr,sz,size,code,data,sq,bl,em,sum⟩) none 0 0)) (by simp[results,Try.results95,go_sem,msV,onlyM,placedB,dataB,formI]) rfl ⟨rfl,(by repeat' (first | with_reducible assumption | with_reducible exact Below.refl _ _ | with_reducible apply zbp | with_reducible apply zb3 | with_reducible apply zb2 | (with_reducible apply zbo;with_reducible assumption) | (with_reducible apply zb4;(first | exact Nat.le_refl _ | (simp;done) | omega))))⟩
theorem zje (M:Ms) (A:Option Addr) (n c:Nat) (w:World) (hn:n=M.data.length) (hk:M.kind=5):Calls Try.prog 95 #[.agg (msV M A n c)] w (NamedR 5 M A n c w):= by
 obtain⟨kind,ix,sub,tg,la,cr,sz,size,code,data,sq,bl,em,sum⟩:= M
 obtain rfl:kind=5:=hk
 simp only[msV] at *
 clear hn
 go_enter Try.func95,Try.ntmps95
 go_wp2_with fail
 refine bodyPost_ret (v:= .agg (msV (onlyM (formI 5) ⟨5,ix,sub,tg,la,cr,sz,size,code,data,sq,bl,em,sum⟩) none 0 0)) (by simp[results,Try.results95,go_sem,msV,onlyM,placedB,dataB,formI]) rfl ⟨rfl,(by repeat' (first | with_reducible assumption | with_reducible exact Below.refl _ _ | with_reducible apply zbp | with_reducible apply zb3 | with_reducible apply zb2 | (with_reducible apply zbo;with_reducible assumption) | (with_reducible apply zb4;(first | exact Nat.le_refl _ | (simp;done) | omega))))⟩
theorem zjf (M:Ms) (A:Option Addr) (n c:Nat) (w:World) (hn:n=M.data.length) (hk:M.kind=13):Calls Try.prog 95 #[.agg (msV M A n c)] w (NamedR 13 M A n c w):= by
 obtain⟨kind,ix,sub,tg,la,cr,sz,size,code,data,sq,bl,em,sum⟩:= M
 obtain rfl:kind=13:=hk
 simp only[msV] at *
 clear hn
 go_enter Try.func95,Try.ntmps95
 go_wp2_with fail
 refine bodyPost_ret (v:= .agg (msV (onlyM (formI 13) ⟨13,ix,sub,tg,la,cr,sz,size,code,data,sq,bl,em,sum⟩) none 0 0)) (by simp[results,Try.results95,go_sem,msV,onlyM,placedB,dataB,formI]) rfl ⟨rfl,(by repeat' (first | with_reducible assumption | with_reducible exact Below.refl _ _ | with_reducible apply zbp | with_reducible apply zb3 | with_reducible apply zb2 | (with_reducible apply zbo;with_reducible assumption) | (with_reducible apply zb4;(first | exact Nat.le_refl _ | (simp;done) | omega))))⟩
end
section
open Go.RowKit
set_option maxRecDepth 100000
set_option maxHeartbeats 4000000
theorem zjg (M:Ms) (A:Option Addr) (n c:Nat) (w:World) (hn:n=M.data.length) (hk:M.kind=6):Calls Try.prog 95 #[.agg (msV M A n c)] w (NamedR 6 M A n c w):= by
 obtain⟨kind,ix,sub,tg,la,cr,sz,size,code,data,sq,bl,em,sum⟩:= M
 obtain rfl:kind=6:=hk
 simp only[msV] at *
 clear hn
 cases sz
 all_goals
  go_enter Try.func95,Try.ntmps95
  go_wp2_with fail
  refine bodyPost_ret (v:= .agg (msV (onlyM (formI 6) ⟨6,ix,sub,tg,la,cr,_,size,code,data,sq,bl,em,sum⟩) none 0 0)) (by simp[results,Try.results95,go_sem,msV,onlyM,placedB,dataB,formI]) rfl ⟨rfl,(by repeat' (first | with_reducible assumption | with_reducible exact Below.refl _ _ | with_reducible apply zbp | with_reducible apply zb3 | with_reducible apply zb2 | (with_reducible apply zbo;with_reducible assumption) | (with_reducible apply zb4;(first | exact Nat.le_refl _ | (simp;done) | omega))))⟩
theorem zjh (M:Ms) (A:Option Addr) (n c:Nat) (w:World) (hn:n=M.data.length) (hk:M.kind=19):Calls Try.prog 95 #[.agg (msV M A n c)] w (NamedR 19 M A n c w):= by
 obtain⟨kind,ix,sub,tg,la,cr,sz,size,code,data,sq,bl,em,sum⟩:= M
 obtain rfl:kind=19:=hk
 simp only[msV] at *
 clear hn
 cases sz
 all_goals
  go_enter Try.func95,Try.ntmps95
  go_wp2_with fail
  refine bodyPost_ret (v:= .agg (msV (onlyM (formI 19) ⟨19,ix,sub,tg,la,cr,_,size,code,data,sq,bl,em,sum⟩) none 0 0)) (by simp[results,Try.results95,go_sem,msV,onlyM,placedB,dataB,formI]) rfl ⟨rfl,(by repeat' (first | with_reducible assumption | with_reducible exact Below.refl _ _ | with_reducible apply zbp | with_reducible apply zb3 | with_reducible apply zb2 | (with_reducible apply zbo;with_reducible assumption) | (with_reducible apply zb4;(first | exact Nat.le_refl _ | (simp;done) | omega))))⟩
theorem zji (M:Ms) (A:Option Addr) (n c:Nat) (w:World) (hn:n=M.data.length) (hk:M.kind=7):Calls Try.prog 95 #[.agg (msV M A n c)] w (NamedR 7 M A n c w):= by
 obtain⟨kind,ix,sub,tg,la,cr,sz,size,code,data,sq,bl,em,sum⟩:= M
 obtain rfl:kind=7:=hk
 simp only[msV] at *
 clear hn
 go_enter Try.func95,Try.ntmps95
 go_wp2_with fail
 refine bodyPost_ret (v:= .agg (msV (onlyM (formI 7) ⟨7,ix,sub,tg,la,cr,sz,size,code,data,sq,bl,em,sum⟩) none 0 0)) (by simp[results,Try.results95,go_sem,msV,onlyM,placedB,dataB,formI]) rfl ⟨rfl,(by repeat' (first | with_reducible assumption | with_reducible exact Below.refl _ _ | with_reducible apply zbp | with_reducible apply zb3 | with_reducible apply zb2 | (with_reducible apply zbo;with_reducible assumption) | (with_reducible apply zb4;(first | exact Nat.le_refl _ | (simp;done) | omega))))⟩
theorem zjj (M:Ms) (A:Option Addr) (n c:Nat) (w:World) (hn:n=M.data.length) (hk:M.kind=20):Calls Try.prog 95 #[.agg (msV M A n c)] w (NamedR 20 M A n c w):= by
 obtain⟨kind,ix,sub,tg,la,cr,sz,size,code,data,sq,bl,em,sum⟩:= M
 obtain rfl:kind=20:=hk
 simp only[msV] at *
 clear hn
 go_enter Try.func95,Try.ntmps95
 go_wp2_with fail
 refine bodyPost_ret (v:= .agg (msV (onlyM (formI 20) ⟨20,ix,sub,tg,la,cr,sz,size,code,data,sq,bl,em,sum⟩) none 0 0)) (by simp[results,Try.results95,go_sem,msV,onlyM,placedB,dataB,formI]) rfl ⟨rfl,(by repeat' (first | with_reducible assumption | with_reducible exact Below.refl _ _ | with_reducible apply zbp | with_reducible apply zb3 | with_reducible apply zb2 | (with_reducible apply zbo;with_reducible assumption) | (with_reducible apply zb4;(first | exact Nat.le_refl _ | (simp;done) | omega))))⟩
theorem zjk (M:Ms) (A:Option Addr) (n c:Nat) (w:World) (hn:n=M.data.length) (hk:M.kind=8):Calls Try.prog 95 #[.agg (msV M A n c)] w (NamedR 8 M A n c w):= by
 obtain⟨kind,ix,sub,tg,la,cr,sz,size,code,data,sq,bl,em,sum⟩:= M
 obtain rfl:kind=8:=hk
 simp only[msV] at *
 clear hn
 go_enter Try.func95,Try.ntmps95
 go_wp2_with fail
 refine bodyPost_ret (v:= .agg (msV (onlyM (formI 8) ⟨8,ix,sub,tg,la,cr,sz,size,code,data,sq,bl,em,sum⟩) none 0 0)) (by simp[results,Try.results95,go_sem,msV,onlyM,placedB,dataB,formI]) rfl ⟨rfl,(by repeat' (first | with_reducible assumption | with_reducible exact Below.refl _ _ | with_reducible apply zbp | with_reducible apply zb3 | with_reducible apply zb2 | (with_reducible apply zbo;with_reducible assumption) | (with_reducible apply zb4;(first | exact Nat.le_refl _ | (simp;done) | omega))))⟩
end
section
open Go.RowKit
set_option maxRecDepth 100000
set_option maxHeartbeats 4000000
theorem zjl (M:Ms) (A:Option Addr) (n c:Nat) (w:World) (hn:n=M.data.length) (hk:M.kind=16):Calls Try.prog 95 #[.agg (msV M A n c)] w (NamedR 16 M A n c w):= by
 obtain⟨kind,ix,sub,tg,la,cr,sz,size,code,data,sq,bl,em,sum⟩:= M
 obtain rfl:kind=16:=hk
 simp only[msV] at *
 clear hn
 go_enter Try.func95,Try.ntmps95
 go_wp2_with fail
 refine bodyPost_ret (v:= .agg (msV (onlyM (formI 16) ⟨16,ix,sub,tg,la,cr,sz,size,code,data,sq,bl,em,sum⟩) none 0 0)) (by simp[results,Try.results95,go_sem,msV,onlyM,placedB,dataB,formI]) rfl ⟨rfl,(by repeat' (first | with_reducible assumption | with_reducible exact Below.refl _ _ | with_reducible apply zbp | with_reducible apply zb3 | with_reducible apply zb2 | (with_reducible apply zbo;with_reducible assumption) | (with_reducible apply zb4;(first | exact Nat.le_refl _ | (simp;done) | omega))))⟩
theorem zjm (M:Ms) (A:Option Addr) (n c:Nat) (w:World) (hn:n=M.data.length) (hk:M.kind=10):Calls Try.prog 95 #[.agg (msV M A n c)] w (NamedR 10 M A n c w):= by
 obtain⟨kind,ix,sub,tg,la,cr,sz,size,code,data,sq,bl,em,sum⟩:= M
 obtain rfl:kind=10:=hk
 simp only[msV] at *
 clear hn
 go_enter Try.func95,Try.ntmps95
 go_wp2_with fail
 refine bodyPost_ret (v:= .agg (msV (onlyM (formI 10) ⟨10,ix,sub,tg,la,cr,sz,size,code,data,sq,bl,em,sum⟩) none 0 0)) (by simp[results,Try.results95,go_sem,msV,onlyM,placedB,dataB,formI]) rfl ⟨rfl,(by repeat' (first | with_reducible assumption | with_reducible exact Below.refl _ _ | with_reducible apply zbp | with_reducible apply zb3 | with_reducible apply zb2 | (with_reducible apply zbo;with_reducible assumption) | (with_reducible apply zb4;(first | exact Nat.le_refl _ | (simp;done) | omega))))⟩
theorem zjn (M:Ms) (A:Option Addr) (n c:Nat) (w:World) (hn:n=M.data.length) (hk:M.kind=17):Calls Try.prog 95 #[.agg (msV M A n c)] w (NamedR 17 M A n c w):= by
 obtain⟨kind,ix,sub,tg,la,cr,sz,size,code,data,sq,bl,em,sum⟩:= M
 obtain rfl:kind=17:=hk
 simp only[msV] at *
 clear hn
 go_enter Try.func95,Try.ntmps95
 go_wp2_with fail
 refine bodyPost_ret (v:= .agg (msV (onlyM (formI 17) ⟨17,ix,sub,tg,la,cr,sz,size,code,data,sq,bl,em,sum⟩) none 0 0)) (by simp[results,Try.results95,go_sem,msV,onlyM,placedB,dataB,formI]) rfl ⟨rfl,(by repeat' (first | with_reducible assumption | with_reducible exact Below.refl _ _ | with_reducible apply zbp | with_reducible apply zb3 | with_reducible apply zb2 | (with_reducible apply zbo;with_reducible assumption) | (with_reducible apply zb4;(first | exact Nat.le_refl _ | (simp;done) | omega))))⟩
theorem zjo (M:Ms) (A:Option Addr) (n c:Nat) (w:World) (hn:n=M.data.length) (hk:M.kind=9):Calls Try.prog 95 #[.agg (msV M A n c)] w (NamedR 9 M A n c w):= by
 obtain⟨kind,ix,sub,tg,la,cr,sz,size,code,data,sq,bl,em,sum⟩:= M
 obtain rfl:kind=9:=hk
 simp only[msV] at *
 clear hn
 go_enter Try.func95,Try.ntmps95
 go_wp2_with fail
 refine bodyPost_ret (v:= .agg (msV (onlyM (formI 9) ⟨9,ix,sub,tg,la,cr,sz,size,code,data,sq,bl,em,sum⟩) none 0 0)) (by simp[results,Try.results95,go_sem,msV,onlyM,placedB,dataB,formI]) rfl ⟨rfl,(by repeat' (first | with_reducible assumption | with_reducible exact Below.refl _ _ | with_reducible apply zbp | with_reducible apply zb3 | with_reducible apply zb2 | (with_reducible apply zbo;with_reducible assumption) | (with_reducible apply zb4;(first | exact Nat.le_refl _ | (simp;done) | omega))))⟩
theorem zjp (M:Ms) (A:Option Addr) (n c:Nat) (w:World) (hn:n=M.data.length) (hk:M.kind=11):Calls Try.prog 95 #[.agg (msV M A n c)] w (NamedR 11 M A n c w):= by
 obtain⟨kind,ix,sub,tg,la,cr,sz,size,code,data,sq,bl,em,sum⟩:= M
 obtain rfl:kind=11:=hk
 simp only[msV] at *
 clear hn
 go_enter Try.func95,Try.ntmps95
 go_wp2_with fail
 refine bodyPost_ret (v:= .agg (msV (onlyM (formI 11) ⟨11,ix,sub,tg,la,cr,sz,size,code,data,sq,bl,em,sum⟩) none 0 0)) (by simp[results,Try.results95,go_sem,msV,onlyM,placedB,dataB,formI]) rfl ⟨rfl,(by repeat' (first | with_reducible assumption | with_reducible exact Below.refl _ _ | with_reducible apply zbp | with_reducible apply zb3 | with_reducible apply zb2 | (with_reducible apply zbo;with_reducible assumption) | (with_reducible apply zb4;(first | exact Nat.le_refl _ | (simp;done) | omega))))⟩
theorem zjq (M:Ms) (A:Option Addr) (n c:Nat) (w:World) (hn:n=M.data.length) (hk:M.kind=18):Calls Try.prog 95 #[.agg (msV M A n c)] w (NamedR 18 M A n c w):= by
 obtain⟨kind,ix,sub,tg,la,cr,sz,size,code,data,sq,bl,em,sum⟩:= M
 obtain rfl:kind=18:=hk
 simp only[msV] at *
 clear hn
 go_enter Try.func95,Try.ntmps95
 go_wp2_with fail
 refine bodyPost_ret (v:= .agg (msV (onlyM (formI 18) ⟨18,ix,sub,tg,la,cr,sz,size,code,data,sq,bl,em,sum⟩) none 0 0)) (by simp[results,Try.results95,go_sem,msV,onlyM,placedB,dataB,formI]) rfl ⟨rfl,(by repeat' (first | with_reducible assumption | with_reducible exact Below.refl _ _ | with_reducible apply zbp | with_reducible apply zb3 | with_reducible apply zb2 | (with_reducible apply zbo;with_reducible assumption) | (with_reducible apply zb4;(first | exact Nat.le_refl _ | (simp;done) | omega))))⟩
theorem zjr (M:Ms) (A:Option Addr) (n c:Nat) (w:World) (hn:n=M.data.length) (hk:M.kind=21):Calls Try.prog 95 #[.agg (msV M A n c)] w (NamedR 21 M A n c w):= by
 obtain⟨kind,ix,sub,tg,la,cr,sz,size,code,data,sq,bl,em,sum⟩:= M
 obtain rfl:kind=21:=hk
 simp only[msV] at *
 clear hn
 go_enter Try.func95,Try.ntmps95
 go_wp2_with fail
 refine bodyPost_ret (v:= .agg (msV (onlyM (formI 21) ⟨21,ix,sub,tg,la,cr,sz,size,code,data,sq,bl,em,sum⟩) A n c)) (by simp[results,Try.results95,go_sem,msV,onlyM,placedB,dataB,formI]) rfl ⟨rfl,(by repeat' (first | with_reducible assumption | with_reducible exact Below.refl _ _ | with_reducible apply zbp | with_reducible apply zb3 | with_reducible apply zb2 | (with_reducible apply zbo;with_reducible assumption) | (with_reducible apply zb4;(first | exact Nat.le_refl _ | (simp;done) | omega))))⟩
end
end Go.Proofs.Ythdbckbpldlkeaa
