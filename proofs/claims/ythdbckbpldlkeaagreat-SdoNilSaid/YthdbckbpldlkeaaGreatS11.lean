/- None -/
import Derived.Test.YthdbckbpldlkeaaGreatS06
import Derived.Deep.DeepCutAuto
import Derived.Deep.CutBlock
import Derived.Deep.QuietTactic
import Derived.BigQuiet
namespace Go.Proofs.YthdbckbpldlkeaaGreat
set_option linter.unusedVariables false
set_option linter.unusedSimpArgs false
set_option linter.unnecessarySimpa false
section
open Go.RowKit
set_option maxRecDepth 100000
set_option maxHeartbeats 4000000
theorem zfj (M N:Ms) (A1 A2:Option Addr) (n1 c1 n2 c2:Nat) (w:World) (hn1:n1=M.data.length) (hn2:n2=N.data.length) (h1:Sl w A1 (M.data.map bv)) (h2:Sl w A2 (N.data.map bv)) :
 Calls Tryz.prog 221 #[.agg (msV M A1 n1 c1),.agg (msV N A2 n2 c2)] w fun e w'=>e= .returned (.bool (sameB M N))∧ Below w.heap.size w w':=by
 have t1:=zds c1 hn1 ((h1.alloc (.cells (msV M A1 n1 c1) 102)).alloc (.cells (msV N A2 n2 c2) 102))
 have t2:=zds c2 hn2 ((h2.alloc (.cells (msV M A1 n1 c1) 102)).alloc (.cells (msV N A2 n2 c2) 102))
 obtain⟨kind,ix,sub,tg,la,cr,sz,size,code,data,sq,bl,em,sum⟩:= M
 obtain⟨kind',ix',sub',tg',la',cr',sz',size',code',data',sq',bl',em',sum'⟩:= N
 simp only[msV] at *
 by_cases he:kind=kind'∧ix=ix'∧sub=sub'∧tg=tg'∧la=la'∧cr=cr'∧sz=sz'∧size=size'∧code=code'∧sq=sq'∧bl=bl'∧em=em'∧sum=sum'
 · obtain⟨rfl,rfl,rfl,rfl,rfl,rfl,rfl,rfl,rfl,rfl,rfl,rfl,rfl⟩:= he
   clear hn1 hn2 h1 h2
   go_enter Tryz.func221,Tryz.ntmps221
   go_wp2_with fail
   all_goals
    go_ret
    refine⟨zau ?_,zc1 (zc1 (Below.refl _ _) _) _⟩
    go_light
    clear t1 t2
    rw[Bool.eq_iff_iff]
    simp_all [sameB]
 · have HE:=zak he
   have HNE:Hid (sameB ⟨kind,ix,sub,tg,la,cr,sz,size,code,data,sq,bl,em,sum⟩ ⟨kind',ix',sub',tg',la',cr',sz',size',code',data',sq',bl',em',sum'⟩=false):= zak (by
    unfold sameB
    rw[decide_eq_false_iff_not]
    intro h
    injection h with h1 h2 h3 h4 h5 h6 h7 h8 h9 h10 h11 h12 h13 h14
    exact he ⟨h1,h2,h3,h4,h5,h6,h7,h8,h9,h11,h12,h13,h14⟩)
   clear hn1 hn2 h1 h2 he t1 t2
   go_enter Tryz.func221,Tryz.ntmps221
   go_wp2_with fail
   all_goals first
    | (go_ret
       exact⟨zau HNE.out.symm,zc1 (zc1 (Below.refl _ _) _) _⟩)
    | (exfalso
       go_light
       have:=HE.out
       simp_all
       done)
    | (exfalso
       go_light
       have:=HE.out
       simp_all
       omega)
end
section
open Go.RowKit
set_option maxRecDepth 100000
set_option maxHeartbeats 4000000
theorem sl_if {w:World} {A:Option Addr} {d:List UInt8} (b:Bool) (h:Sl w A (d.map bv)):Sl w (if b=true then A else none) ((if b=true then d else []).map bv):= by
 cases b
 · exact Sl.nil _ _
 · exact h
theorem zfk (M:Ms) (A:Option Addr) (n c:Nat) (w:World) (hn:n=M.data.length) (hs:Sl w A (M.data.map bv)) :
 Calls Tryz.prog 188 #[.int .i64 (formI M.kind),.agg (msV M A n c)] w fun e w'=>e= .returned (.bool (canB M))∧ Below w.heap.size w w':=by
 have q0:=zdb w 102 (msV M A n c)
 have hbw:=zc1 (Below.refl w.heap.size w) (.cells (msV M A n c) 102)
 have hs1:=hs.alloc (.cells (msV M A n c) 102)
 have HO:=zak (fun W=>zex M.kind M A n c W hn)
 have hnO:(if dataB (formI M.kind)=true then n else 0)=(onlyM (formI M.kind) M).data.length:=by
  rw[hn];unfold onlyM;simp only[];split<;>rfl
 have HSM:=zak (fun W h1 h2=>zfj M (onlyM (formI M.kind) M) A (if dataB (formI M.kind)=true then A else none) n c (if dataB (formI M.kind)=true then n else 0) (if dataB (formI M.kind)=true then c else 0) W hn hnO h1 h2)
 have hsO:Hid (∀ W,Sl W A (M.data.map bv)→ Sl W (if dataB (formI M.kind)=true then A else none) ((onlyM (formI M.kind) M).data.map bv)):= zak (fun W h=>sl_if _ h)
 unfold OnlyR at HO
 obtain⟨b0,e0⟩:∃ b,b=(decide (formI M.kind≠0) && rangeB M):= ⟨_,rfl⟩
 obtain⟨sm,es⟩:∃ b,b=sameB M (onlyM (formI M.kind) M):= ⟨_,rfl⟩
 have HC:Hid (canB M=(b0 && shapeB (formI M.kind) M && sm)):= zak (by rw[e0,es];rfl)
 rw[← es] at HSM
 have HN:=zak hn
 have H0:=zak e0
 clear hn hs hnO e0 es
 generalize onlyM (formI M.kind) M=N at *
 obtain⟨f,hf⟩:∃ f,formI M.kind=f:=⟨_,rfl⟩
 rw[hf] at HO HSM hsO HC H0 ⊢
 clear hf
 obtain⟨kind,ix,sub,tg,la,cr,sz,size,code,data,sq,bl,em,sum⟩:= M
 simp only[msV] at *
 go_enter Tryz.func188,Tryz.ntmps188
 go_upto_region 2 with fail
 go_cut [6] (fun s6 wx=>s6= .bool b0∧wx=w.alloc (.cells #[.int .i64 kind,.int .i64 ix,.int .i64 sub,.bool tg,.bool la,.bool cr,.bool sz,.int .u32 (size:Nat),.int .u32 (code:Nat),.slice A n c,.int .i64 sq,.int .i64 bl,.int .i64 em,.int .u16 (sum:Nat)] 102))
 case first=>
  have HE:Hid (b0=(decide (f≠0) && ((decide (0≤ix) && decide (ix≤65535)) && (decide (0≤sub) && decide (sub≤255)) && (decide (0≤sq) && decide (sq≤127)) && (decide (0≤bl) && decide (bl≤127)) && (decide (0≤em) && decide (em≤7)) && decide (n≤7)))):= zak (by rw[H0.out,HN.out];rfl)
  clear HO HSM hsO HC H0
  obtain⟨b1,e1⟩:∃ b,b=(decide (0≤ix) && decide (ix≤65535)):= ⟨_,rfl⟩
  obtain⟨b2,e2⟩:∃ b,b=(decide (0≤sub) && decide (sub≤255)):= ⟨_,rfl⟩
  obtain⟨b3,e3⟩:∃ b,b=(decide (0≤sq) && decide (sq≤127)):= ⟨_,rfl⟩
  obtain⟨b4,e4⟩:∃ b,b=(decide (0≤bl) && decide (bl≤127)):= ⟨_,rfl⟩
  obtain⟨b5,e5⟩:∃ b,b=(decide (0≤em) && decide (em≤7)):= ⟨_,rfl⟩
  rw[← e1,← e2,← e3,← e4,← e5] at HE
  have W1:=zak (fun W=>zek ix 65535 W)
  have W2:=zak (fun W=>zek sub 255 W)
  have W3:=zak (fun W=>zek sq 127 W)
  have W4:=zak (fun W=>zek bl 127 W)
  have W5:=zak (fun W=>zek em 7 W)
  rw[← e1] at W1
  rw[← e2] at W2
  rw[← e3] at W3
  rw[← e4] at W4
  rw[← e5] at W5
  clear e1 e2 e3 e4 e5
  by_cases hf0:f=0
  · subst hf0
    go_wp2_with fail
    go_meet
    exact⟨by rw[HE.out];rfl,rfl⟩
  have hf1:(f != 0)=true:=by simpa using hf0
  have HF:Hid (decide (f≠0)=true):= zak (by simpa using hf0)
  rw[HF.out] at HE
  clear hf0
  go_wp2_with fail
  refine (W1.out _).mono ?_
  rintro e w2 ⟨rfl,rfl⟩
  cases b1
  · go_wp2_with fail
    go_meet
    exact⟨by rw[HE.out];simp,rfl⟩
  go_wp2_with fail
  refine (W2.out _).mono ?_
  rintro e w2 ⟨rfl,rfl⟩
  cases b2
  · go_wp2_with fail
    go_meet
    exact⟨by rw[HE.out];simp,rfl⟩
  go_wp2_with fail
  refine (W3.out _).mono ?_
  rintro e w2 ⟨rfl,rfl⟩
  cases b3
  · go_wp2_with fail
    go_meet
    exact⟨by rw[HE.out];simp,rfl⟩
  go_wp2_with fail
  refine (W4.out _).mono ?_
  rintro e w2 ⟨rfl,rfl⟩
  cases b4
  · go_wp2_with fail
    go_meet
    exact⟨by rw[HE.out];simp,rfl⟩
  go_wp2_with fail
  refine (W5.out _).mono ?_
  rintro e w2 ⟨rfl,rfl⟩
  cases b5
  · go_wp2_with fail
    go_meet
    exact⟨by rw[HE.out];simp,rfl⟩
  by_cases h7:n≤7
  · have HE7:Hid (b0=true):= zak (by rw[HE.out];simp[h7])
    go_wp2_with fail
    go_meet
    exact⟨by rw[HE7.out];congr 1;simp;omega,rfl⟩
  · have HE7:Hid (b0=false):= zak (by rw[HE.out];simp[h7])
    have h7':(7:Int) < (n:Int):= by omega
    go_wp2_with fail
    go_meet
    exact⟨by rw[HE7.out];congr 1;simp;omega,rfl⟩
 case rest=>
  obtain⟨rfl,rfl⟩:= hcut
  have hz:=q0.lt
  generalize w.alloc (.cells #[.int .i64 kind,.int .i64 ix,.int .i64 sub,.bool tg,.bool la,.bool cr,.bool sz,.int .u32 (size:Nat),.int .u32 (code:Nat),.slice A n c,.int .i64 sq,.int .i64 bl,.int .i64 em,.int .u16 (sum:Nat)] 102)=W at *
  obtain⟨q0_c0,q0_c1,q0_c2,q0_c3,q0_c4,q0_c5,q0_c6,q0_c7,q0_c8,q0_c9,q0_c10,q0_c11,q0_c12,q0_c13⟩:= zc9 q0
  have q0_f:=q0.frozen
  go_upto_block 0 with fail
  go_cut [6] (fun s6 wx=>s6= .bool (b0 && shapeB f ⟨kind,ix,sub,tg,la,cr,sz,size,code,data,sq,bl,em,sum⟩)∧ wx=W)
  case first=>
   clear HO HSM hsO HC
   have hfc:f=2∨f=11∨(f≠2∧f≠11):= by omega
   rcases hfc with hf2 | hf11 | ⟨hf2,hf11⟩
   · have hf2':(f == 2)=true:=by simpa using hf2
     have HSH:Hid (shapeB f ⟨kind,ix,sub,tg,la,cr,sz,size,code,data,sq,bl,em,sum⟩=(decide (n=0) || decide (n=4) || (decide (n < 4) && sz))):= zak (by rw[HN.out];unfold shapeB;rw[if_pos hf2])
     clear hf2
     cases b0
     · go_wp2_with fail
       go_meet
       exact⟨by simp,rfl⟩
     rcases (show n=0∨n=4∨((n≠0∧n≠4)∧ n < 4)∨ 4 < n by omega) with rfl | rfl | ⟨⟨a1,a2⟩,a3⟩ | a4
     · go_wp2_with fail
       go_meet
       exact⟨by rw[HSH.out];simp,rfl⟩
     · go_wp2_with fail
       go_meet
       exact⟨by rw[HSH.out];simp,rfl⟩
     · have HH:Hid (shapeB f ⟨kind,ix,sub,tg,la,cr,sz,size,code,data,sq,bl,em,sum⟩=sz):= zak (by rw[HSH.out];simp[a1,a2,a3])
       have a1':((n:Int) == 0)=false:=by simpa using a1
       have a2':((n:Int) == 4)=false:=by simp;omega
       clear a1 a2
       go_wp2_with fail
       go_meet
       exact⟨by rw[HH.out];simp,rfl⟩
     · have b1: ¬ n=0:=by omega
       have b2: ¬ n=4:=by omega
       have b3: ¬ n < 4:=by omega
       have HH:Hid (shapeB f ⟨kind,ix,sub,tg,la,cr,sz,size,code,data,sq,bl,em,sum⟩=false):= zak (by rw[HSH.out];simp[b1,b2,b3])
       have a1':((n:Int) == 0)=false:=by simp;omega
       have a2':((n:Int) == 4)=false:=by simp;omega
       have a3':(4:Int)≤ (n:Int):= by omega
       clear b1 b2 b3
       go_wp2_with fail
       go_meet
       exact⟨by rw[HH.out];simp,rfl⟩
   · have hf11':(f == 11)=true:=by simpa using hf11
     have hf2':(f == 2)=false:=by simp;omega
     have HSH:Hid (shapeB f ⟨kind,ix,sub,tg,la,cr,sz,size,code,data,sq,bl,em,sum⟩=(decide (n=7) && decide (0 < sq))):= zak (by rw[HN.out];unfold shapeB;rw[if_neg (by omega),if_pos hf11])
     clear hf11
     cases b0
     · go_wp2_with fail
       go_meet
       exact⟨by simp,rfl⟩
     by_cases a1:n=7
     · subst a1
       go_wp2_with fail
       go_meet
       exact⟨by rw[HSH.out];simp,rfl⟩
     · have HH:Hid (shapeB f ⟨kind,ix,sub,tg,la,cr,sz,size,code,data,sq,bl,em,sum⟩=false):= zak (by rw[HSH.out];simp[a1])
       have a1':((n:Int) == 7)=false:=by simp;omega
       clear a1
       go_wp2_with fail
       go_meet
       exact⟨by rw[HH.out];simp,rfl⟩
   · have hf11':(f == 11)=false:=by simpa using hf11
     have hf2':(f == 2)=false:=by simpa using hf2
     have HSH:Hid (shapeB f ⟨kind,ix,sub,tg,la,cr,sz,size,code,data,sq,bl,em,sum⟩=true):= zak (by unfold shapeB;rw[if_neg hf2,if_neg hf11])
     clear hf11 hf2
     go_wp2_with fail
     go_meet
     exact⟨by rw[HSH.out];simp,rfl⟩
  case rest=>
   obtain⟨rfl,hW⟩:= hcut
   have hW':=hW.symm
   clear hW
   subst hW'
   obtain⟨b8,e8⟩:∃ b,b=(b0 && shapeB f ⟨kind,ix,sub,tg,la,cr,sz,size,code,data,sq,bl,em,sum⟩):= ⟨_,rfl⟩
   have HV:Hid (canB ⟨kind,ix,sub,tg,la,cr,sz,size,code,data,sq,bl,em,sum⟩=(b8 && sm)):= zak (by rw[HC.out,e8])
   rw[← e8]
   clear e8 HC
   cases b8
   · go_wp2_with fail
     go_quiet (fail)
     go_wp2_with fail
     go_ret
     exact⟨zau (by rw[HV.out];rfl),zdl hbw _⟩
   · go_wp2_with fail
     refine wp_region_held_drew (S:=(fun w'=>(∀ qA:Addr,qA.block < (W).heap.size→w'.cell? qA=(W).cell? qA)∧ Below (W).heap.size (W) w')) (by kernel_rfl) ?hS1 (fun hHeld=>?rest1)
     case hS1=>((try dsimp only);(((try go_split_ands);refine zcz ?_;repeat' (first | with_reducible assumption | with_reducible exact Below.refl _ _ | with_reducible apply zc1 | with_reducible apply zdm | with_reducible apply zdl | (with_reducible apply zc0;with_reducible assumption) | (with_reducible apply zdn;(first | exact Nat.le_refl _ | (simp;done) | omega))))))
     case' rest1=>skip
     iterate 5 (refine tkN ?_;try simp only[PqL,Act.put])
     refine wpAnyH_ready (rs:= [5]) (by kernel_rfl) (by simp) ?_
     refine AllReadyH.cons (o:=_) rfl (fun K hK=>?_) AllReadyH.nil
     go_simp
     refine (HO.out _).mono ?_
     rintro e w3 ⟨rfl,hb3⟩
     try dsimp only
     refine hK.out _ _ ?hS9 (fun hHeld=>?rest9)
     case hS9=>((try dsimp only);(((try go_split_ands);refine zcz ?_;repeat' (first | with_reducible assumption | with_reducible exact Below.refl _ _ | with_reducible apply zc1 | with_reducible apply zdm | with_reducible apply zdl | (with_reducible apply zc0;with_reducible assumption) | (with_reducible apply zdn;(first | exact Nat.le_refl _ | (simp;done) | omega))))))
     case' rest9=>(clear hK K;try simp only[PqL,Act.put])
     refine wpAnyH_ready (rs:= [6]) (by kernel_rfl) (by simp) ?_
     refine AllReadyH.cons (o:=_) rfl (fun K hK=>?_) AllReadyH.nil
     go_simp
     refine (HSM.out _ (hs1.drew.below hb3) (hsO.out _ (hs1.drew.below hb3))).mono ?_
     rintro e w4 ⟨rfl,hb4⟩
     try dsimp only
     refine hK.out _ _ ?hS12 (fun hHeld=>?rest12)
     case hS12=>((try dsimp only);(((try go_split_ands);refine zcz ?_;repeat' (first | with_reducible assumption | with_reducible exact Below.refl _ _ | with_reducible apply zc1 | with_reducible apply zdm | with_reducible apply zdl | (with_reducible apply zc0;with_reducible assumption) | (with_reducible apply zdn;(first | exact Nat.le_refl _ | (simp;done) | omega))))))
     case' rest12=>(clear hK K;try simp only[PqL,Act.put])
     refine wpAnyH_ready (rs:= [7]) (by kernel_rfl) (by simp) ?_
     refine AllReadyH.cons (o:=_) rfl (fun K hK=>?_) AllReadyH.nil
     go_simp
     refine hK.out _ _ ?hS15 (fun hHeld=>?rest15)
     case hS15=>((try dsimp only);(((try go_split_ands);refine zcz ?_;repeat' (first | with_reducible assumption | with_reducible exact Below.refl _ _ | with_reducible apply zc1 | with_reducible apply zdm | with_reducible apply zdl | (with_reducible apply zc0;with_reducible assumption) | (with_reducible apply zdn;(first | exact Nat.le_refl _ | (simp;done) | omega))))))
     case' rest15=>(clear hK K;try simp only[PqL,Act.put])
     refine wpAnyH_ready (rs:= [8]) (by kernel_rfl) (by simp) ?_
     refine AllReadyH.cons (o:=_) rfl (fun K hK=>?_) AllReadyH.nil
     go_simp
     refine hK.out _ _ ?hS18 (fun hHeld=>?rest18)
     case hS18=>((try dsimp only);(((try go_split_ands);refine zcz ?_;repeat' (first | with_reducible assumption | with_reducible exact Below.refl _ _ | with_reducible apply zc1 | with_reducible apply zdm | with_reducible apply zdl | (with_reducible apply zc0;with_reducible assumption) | (with_reducible apply zdn;(first | exact Nat.le_refl _ | (simp;done) | omega))))))
     case' rest18=>(clear hK K;try simp only[PqL,Act.put])
     refine wpAnyH_done (by kernel_rfl) ?_ _
     have hEnd:=hHeld.2
     repeat (clear hHeld)
     go_wp2_with fail
     all_goals
      go_ret
      exact⟨zau (by rw[HV.out];simp_all),zc0 hEnd hbw⟩
end
section
open Go.RowKit
set_option maxRecDepth 100000
set_option maxHeartbeats 2000000
structure St (w W:World) (gb x:Nat) (l:List UInt8) (cs:Array Value):Prop where
 m:Blk W w.heap.size 102 cs
 f:Blk W (w.heap.size+1) 5 #[.int .u8 (x:Nat)]
 b:Bl8 W gb l
 hb:w.heap.size+1 < gb
 be:Below w.heap.size w W
 hl:l.length=8
 hx:x < 256
section
variable {w W W':World} {gb x:Nat} {l:List UInt8} {cs:Array Value}
theorem St.drew (h:St w W gb x l cs):St w W.drew gb x l cs:=⟨h.m,h.f,h.b,h.hb,h.be.drew,h.hl,h.hx⟩
theorem St.put {l':List UInt8} (h:St w W gb x l cs) (hB:Bl8 W' gb l') (hl:l'.length=8) (hg:W.grownBy W' (some gb)):St w W' gb x l' cs:=
 ⟨h.m.grown hg (by intro e;injection e with e;have:=h.hb;omega),h.f.grown hg (by intro e;injection e with e;have:=h.hb;omega),hB,h.hb,zdj h.be hg (by have:=h.hb;omega) h.be.size,hl,h.hx⟩
theorem St.bit {x':Nat} (h:St w W gb x l cs) (hf:Blk W' (w.heap.size+1) 5 #[.int .u8 (x':Nat)]) (hx:x' < 256) (hg:W.grownBy W' (some (w.heap.size+1))):St w W' gb x' l cs:=
 ⟨h.m.grown hg (by intro e;injection e with e;omega),hf,Blk.grown h.b hg (by intro e;injection e with e;have:=h.hb;omega),h.hb,zdj h.be hg (by omega) h.be.size,h.hl,hx⟩
theorem St.fst {x':Nat} (h:St w W gb x l cs) (hx:x' < 256):St w (W.setCell ⟨w.heap.size+1,0,none⟩ (.int .u8 (x':Nat))) gb x' l cs:=
 h.bit (by simpa using h.f.set_ 0 (.int .u8 (x':Nat))) hx (zcy (World.grownBy.refl _ _) (.inl rfl) _ _)
theorem St.byte (h:St w W gb x l cs) (i:Nat) (c:UInt8):St w (W.setCell ⟨gb,i,none⟩ (bv c)) gb x (l.set i c) cs:=
 h.put (h.b.set8 i c) (by simp[h.hl]) (zcy (World.grownBy.refl _ _) (.inl rfl) _ _)
theorem zfl {b:Bool} {x y:Nat} (hx:x < 256) (hy:y < 256):orB b x y < 256:=by
 unfold orB
 split
 · exact Nat.or_lt_two_pow (n:=8) hx hy
 · exact hx
def StR (w:World) (gb x:Nat) (l:List UInt8) (cs:Array Value) (e:Ending) (w':World):Prop:=e= .returned (.tuple #[])∧ St w w' gb x l cs
theorem zfm (at_ wd n:Nat) (h:St w W gb x l cs) (hx:U64 n) (hw:at_+wd≤8) :
 Calls Tryz.prog 189 #[.int .i64 (at_:Nat),.int .i64 (wd:Nat),.int .u64 (n:Nat),.pointer (some ⟨gb,0,none⟩)] W (StR w gb x (putL l at_ wd n) cs):=
 (zed at_ wd n gb l W h.hl hx hw h.b).mono fun _ _ ⟨he,hB,hg⟩=> ⟨he,h.put hB (by rw[zco,h.hl]) hg⟩
theorem zfn (b:Bool) (y:Nat) (h:St w W gb x l cs) (hy:y < 256) :
 Calls Tryz.prog 190 #[.bool b,.int .u8 (y:Nat),.pointer (some ⟨w.heap.size+1,0,none⟩)] W (StR w gb (orB b x y) l cs):=
 (zee b x y (w.heap.size+1) W h.hx hy h.f).mono fun _ _ ⟨he,hB,hg⟩=> ⟨he,h.bit hB (zfl h.hx hy) hg⟩
theorem zfo (A:Option Addr) (n c o m:Nat) (d:List UInt8) (h:St w W gb x l cs) (hn:n=d.length) (hom:o+m=8) (hnm:n≤m) (hs:Sl W A (d.map bv)) :
 ∃ W',(Builtin.copy_ #[27,27] 3 #[.slice (some ⟨gb,o,none⟩) m m,.slice A n c]).run Tryz.prog W= .ok (goInt n) W'∧St w W' gb x (cpL l o d) cs∧W.grownBy W' (some gb):= by
 by_cases h0:n=0
 · have hd:d= []:= List.eq_nil_of_length_eq_zero (by omega)
   subst h0 hd
   refine⟨W,run_copy_none W _ _ _ _ _ _ _ _ _ _ Tryz.underlying27 zdp (by simp),?_,World.grownBy.refl _ _⟩
   have:cpL l o []=l:=by simp[cpL]
   rw[this]
   exact h
 · obtain⟨ad,rfl,_⟩:= hs.byte (j:=0) (by omega)
   have hB:W.heap[gb]? =some (.cells (l.map bv).toArray 238 (0,0)):= h.b
   have hr:=run_copy_row (P:=Tryz.prog) W 27 27 3 5 gb o m m ad n c (l.map bv).toArray 238 (d.map bv) Tryz.underlying27 zdp hB
    (by simp only[List.length_map];show d.length=min n m;omega) (fun j v hv=>by obtain⟨ad',e,hc⟩:= hs j v hv;injection e with e;subst e;exact hc) (by have:=h.hl;simp;omega) (zcw _)
   have hl:(l.map bv).toArray.toList.take o ++ d.map bv ++ (l.map bv).toArray.toList.drop (o+(d.map bv).length)=(cpL l o d).map bv:=by
    simp[cpL]
   rw[hl] at hr
   have hg:W.grownBy (W.setRow gb ((cpL l o d).map bv).toArray) (some gb):= ⟨rfl,rfl,rfl,by simp,fun i _ hne=>setRow_other W gb i _ (by intro e;subst e;exact hne rfl)⟩
   refine⟨_,by simpa [hn] using hr,h.put (setRow_heap W gb _ _ _ _ hB) ?_ hg,hg⟩
   rw[zcq _ _ _ (by have:=h.hl;omega),h.hl]
end
end
end Go.Proofs.YthdbckbpldlkeaaGreat
