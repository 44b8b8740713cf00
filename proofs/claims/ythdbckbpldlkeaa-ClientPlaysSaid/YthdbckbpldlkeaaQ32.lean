/- None -/
import Derived.Test.YthdbckbpldlkeaaQ28
import Derived.Test.YthdbckbpldlkeaaQ29
import Derived.Test.YthdbckbpldlkeaaQ30
import Derived.Test.YthdbckbpldlkeaaQ31
namespace Go.Proofs.Ythdbckbpldlkeaa
set_option linter.unusedVariables false
set_option linter.unusedSimpArgs false
set_option linter.unnecessarySimpa false
section
section
open Go.RowKit
set_option maxRecDepth 100000
set_option maxHeartbeats 8000000
theorem zk0 (k:Int):formI k=2 ↔ k=2∨k=14:=by unfold formI;(repeat' split)<;> omega
theorem zk1 (k:Int):formI k=11 ↔ k=21:=by unfold formI;(repeat' split)<;> omega
theorem zk2 {w:World} {A:Option Addr} {d:List UInt8} (b:Bool) (h:Sl w A (d.map bv)):Sl w (if b=true then A else none) ((if b=true then d else []).map bv):= by
 cases b
 · exact Sl.nil _ _
 · exact h
theorem zk3 (M:Ms) (n:Nat) (hn:n=M.data.length):shapeB (formI M.kind) M=if M.kind=2∨M.kind=14 then (decide (n=0) || decide (n=4) || (decide (n < 4) && M.sz)) else if M.kind=21 then (decide (n=7) && decide (0 < M.sq)) else true:=by
 subst hn
 unfold shapeB
 by_cases h2:M.kind=2∨M.kind=14
 · rw[if_pos ((zk0 _).2 h2),if_pos h2]
 · rw[if_neg (fun h=>h2 ((zk0 _).1 h)),if_neg h2]
   by_cases h3:M.kind=21
   · rw[if_pos ((zk1 _).2 h3),if_pos h3]
   · rw[if_neg (fun h=>h3 ((zk1 _).1 h)),if_neg h3]
theorem zk4 (M:Ms) (A:Option Addr) (n c:Nat) (w:World) (hk:M.kind < 1∨21 < M.kind) :
 Calls Try.prog 84 #[.agg (msV M A n c)] w fun e w'=>e= .returned (.bool (canB M))∧ Below w.heap.size w w':=by
 have hbw:=zbp (Below.refl w.heap.size w) (.cells (msV M A n c) 72)
 have HV:Hid (canB M=false):= zak (by
  unfold canB
  rw[zax _ hk]
  rfl)
 obtain⟨kind,ix,sub,tg,la,cr,sz,size,code,data,sq,bl,em,sum⟩:= M
 simp only[msV] at *
 rcases (show kind < 1∨(1≤kind∧21 < kind) by omega) with h | ⟨h1,h2⟩
 all_goals
  clear hk
  go_enter Try.func84,Try.ntmps84
  go_wp2_with fail
  go_quiet (fail)
  go_wp2_with fail
  go_ret
  exact⟨zav HV.out.symm,zb2 hbw _⟩
def inB (M:Ms) (n:Nat):Prop:=0≤M.ix∧M.ix≤65535∧0≤M.sub∧M.sub≤255∧0≤M.sq∧M.sq≤127∧0≤M.bl∧M.bl≤127∧0≤M.em∧M.em≤7∧n≤7
theorem zk6 (M:Ms) (n:Nat) (hn:n=M.data.length):rangeB M=true ↔ inB M n:=by
 subst hn
 simp only[rangeB,inB,Bool.and_eq_true,decide_eq_true_iff,and_assoc]
theorem zk7 (M:Ms) (A:Option Addr) (n c:Nat) (w:World) (hn:n=M.data.length) (hs:Sl w A (M.data.map bv)) (h1:1≤M.kind) (h2:M.kind≤21) :
 Calls Try.prog 84 #[.agg (msV M A n c)] w fun e w'=>e= .returned (.bool (canB M))∧ Below w.heap.size w w':=by
 have q0:=zbu w 72 (msV M A n c)
 have hbw:=zbp (Below.refl w.heap.size w) (.cells (msV M A n c) 72)
 have hs1:=hs.alloc (.cells (msV M A n c) 72)
 have HO:=zak (fun W=>zjs M A n c W hn h1 h2)
 have hnO:(if dataB (formI M.kind)=true then n else 0)=(onlyM (formI M.kind) M).data.length:=by
  rw[hn];unfold onlyM;simp only[];split<;>rfl
 have HSM:=zak (fun W h1 h2=>zj8 M (onlyM (formI M.kind) M) A (if dataB (formI M.kind)=true then A else none) n c (if dataB (formI M.kind)=true then n else 0) (if dataB (formI M.kind)=true then c else 0) W hn hnO h1 h2)
 have hsO:Hid (∀ W,Sl W A (M.data.map bv)→ Sl W (if dataB (formI M.kind)=true then A else none) ((onlyM (formI M.kind) M).data.map bv)):= zak (fun W h=>zk2 _ h)
 unfold NamedR at HO
 obtain⟨sm,es⟩:∃ b,b=sameB M (onlyM (formI M.kind) M):= ⟨_,rfl⟩
 have HC:Hid (canB M=(rangeB M && (if M.kind=2∨M.kind=14 then (decide (n=0) || decide (n=4) || (decide (n < 4) && M.sz)) else if M.kind=21 then (decide (n=7) && decide (0 < M.sq)) else true) && sm)):= zak (by
  unfold canB
  rw[← es,zk3 M n hn]
  have:decide (formI M.kind≠0)=true:=by simpa using zay _ h1 h2
  rw[this,Bool.true_and])
 have HR:=zak (zk6 M n hn)
 rw[← es] at HSM
 clear hn hs hnO es
 generalize onlyM (formI M.kind) M=N at *
 generalize dataB (formI M.kind)=db at *
 obtain⟨kind,ix,sub,tg,la,cr,sz,size,code,data,sq,bl,em,sum⟩:= M
 simp only[msV] at *
 go_enter Try.func84,Try.ntmps84
 go_wp2_with fail
 have hz:=q0.lt
 generalize w.alloc (.cells #[.int .i64 kind,.int .i64 ix,.int .i64 sub,.bool tg,.bool la,.bool cr,.bool sz,.int .u32 (size:Nat),.int .u32 (code:Nat),.slice A n c,.int .i64 sq,.int .i64 bl,.int .i64 em,.int .u16 (sum:Nat)] 72)=W at *
 have d1:decide (kind < 1)=false:=by simp;omega
 have d2:decide (21 < kind)=false:=by simp;omega
 obtain⟨q0_c0,q0_c1,q0_c2,q0_c3,q0_c4,q0_c5,q0_c6,q0_c7,q0_c8,q0_c9,q0_c10,q0_c11,q0_c12,q0_c13⟩:= zbs q0
 have q0_f:=q0.frozen
 refine wp_region_held_drew (S:=(fun w'=>(∀ qA:Addr,qA.block < (W).heap.size→w'.cell? qA=(W).cell? qA)∧ Below (W).heap.size (W) w')) (by kernel_rfl) ?hS1 (fun hHeld=>?rest1)
 case hS1=>((try dsimp only);(((try go_split_ands);refine zbn ?_;repeat' (first | with_reducible assumption | with_reducible exact Below.refl _ _ | with_reducible apply zbp | with_reducible apply zb3 | with_reducible apply zb2 | (with_reducible apply zbo;with_reducible assumption) | (with_reducible apply zb4;(first | exact Nat.le_refl _ | (simp;done) | omega))))))
 case' rest1=>skip
 iterate 11 (refine tkN ?_;try simp only[PqL,Act.put])
 refine wpAnyH_ready (rs:= [11]) (by kernel_rfl) (by simp) ?_
 refine AllReadyH.cons (o:=_) rfl (fun K hK=>?_) AllReadyH.nil
 go_simp
 refine (HO.out _).mono ?_
 rintro e w3 ⟨rfl,hb3⟩
 try dsimp only
 refine hK.out _ _ ?hS15 (fun hHeld=>?rest15)
 case hS15=>((try dsimp only);(((try go_split_ands);refine zbn ?_;repeat' (first | with_reducible assumption | with_reducible exact Below.refl _ _ | with_reducible apply zbp | with_reducible apply zb3 | with_reducible apply zb2 | (with_reducible apply zbo;with_reducible assumption) | (with_reducible apply zb4;(first | exact Nat.le_refl _ | (simp;done) | omega))))))
 case' rest15=>(clear hK K;try simp only[PqL,Act.put])
 refine wpAnyH_ready (rs:= [12]) (by kernel_rfl) (by simp) ?_
 refine AllReadyH.cons (o:=_) rfl (fun K hK=>?_) AllReadyH.nil
 go_simp
 refine (HSM.out _ (hs1.drew.below hb3) (hsO.out _ (hs1.drew.below hb3))).mono ?_
 rintro e w4 ⟨rfl,hb4⟩
 try dsimp only
 refine hK.out _ _ ?hS18 (fun hHeld=>?rest18)
 case hS18=>((try dsimp only);(((try go_split_ands);refine zbn ?_;repeat' (first | with_reducible assumption | with_reducible exact Below.refl _ _ | with_reducible apply zbp | with_reducible apply zb3 | with_reducible apply zb2 | (with_reducible apply zbo;with_reducible assumption) | (with_reducible apply zb4;(first | exact Nat.le_refl _ | (simp;done) | omega))))))
 case' rest18=>(clear hK K;try simp only[PqL,Act.put])
 refine wpAnyH_ready (rs:= [13]) (by kernel_rfl) (by simp) ?_
 refine AllReadyH.cons (o:=_) rfl (fun K hK=>?_) AllReadyH.nil
 go_simp
 refine hK.out _ _ ?hS21 (fun hHeld=>?rest21)
 case hS21=>((try dsimp only);(((try go_split_ands);refine zbn ?_;repeat' (first | with_reducible assumption | with_reducible exact Below.refl _ _ | with_reducible apply zbp | with_reducible apply zb3 | with_reducible apply zb2 | (with_reducible apply zbo;with_reducible assumption) | (with_reducible apply zb4;(first | exact Nat.le_refl _ | (simp;done) | omega))))))
 case' rest21=>(clear hK K;try simp only[PqL,Act.put])
 refine wpAnyH_ready (rs:= [14]) (by kernel_rfl) (by simp) ?_
 refine AllReadyH.cons (o:=_) rfl (fun K hK=>?_) AllReadyH.nil
 go_simp
 refine hK.out _ _ ?hS24 (fun hHeld=>?rest24)
 case hS24=>((try dsimp only);(((try go_split_ands);refine zbn ?_;repeat' (first | with_reducible assumption | with_reducible exact Below.refl _ _ | with_reducible apply zbp | with_reducible apply zb3 | with_reducible apply zb2 | (with_reducible apply zbo;with_reducible assumption) | (with_reducible apply zb4;(first | exact Nat.le_refl _ | (simp;done) | omega))))))
 case' rest24=>(clear hK K;try simp only[PqL,Act.put])
 refine wpAnyH_done (by kernel_rfl) ?_ _
 have hEnd:=hHeld.2
 repeat (clear hHeld)
 clear q0_c0 q0_c1 q0_c2 q0_c3 q0_c4 q0_c5 q0_c6 q0_c7 q0_c8 q0_c9 q0_c10 q0_c11 q0_c12 q0_c13 q0_f
 replace q0:=q0.below hEnd hz
 replace hbw:=zbo hEnd hbw
 clear HO HSM hsO hs1 hb3 hb4 hEnd
 have hz:=q0.lt
 obtain⟨q0_c0,q0_c1,q0_c2,q0_c3,q0_c4,q0_c5,q0_c6,q0_c7,q0_c8,q0_c9,q0_c10,q0_c11,q0_c12,q0_c13⟩:= zbs q0
 have q0_f:=q0.frozen
 cases sm
 · have HV:Hid (canB ⟨kind,ix,sub,tg,la,cr,sz,size,code,data,sq,bl,em,sum⟩=false):= zak (by rw[HC.out,Bool.and_false])
   go_wp2_with fail
   all_goals (go_ret;exact⟨zav HV.out.symm,hbw⟩)
 clear d1 d2
 by_cases hin:inB ⟨kind,ix,sub,tg,la,cr,sz,size,code,data,sq,bl,em,sum⟩ n
 case neg=>
  have HV:Hid (canB ⟨kind,ix,sub,tg,la,cr,sz,size,code,data,sq,bl,em,sum⟩=false):= zak (by
   have hr:rangeB ⟨kind,ix,sub,tg,la,cr,sz,size,code,data,sq,bl,em,sum⟩=false:=by
    rw[Bool.eq_false_iff]
    intro h
    exact hin (HR.out.1 h)
   rw[HC.out,hr,Bool.false_and,Bool.false_and])
  have HIN:=zak hin
  clear hin HC HR q0
  go_wp2_with fail
  all_goals first
   | (go_ret
      exact⟨zav HV.out.symm,hbw⟩)
   | (exfalso
      go_light
      have:=HIN.out
      simp only[inB] at this
      omega)
 case pos=>
  have HT:=zak (HR.out.2 hin)
  simp only[inB] at hin
  obtain⟨r1,r2,r3,r4,r5,r6,r7,r8,r9,r10,r11⟩:= hin
  clear HR
  go_upto_region 5 with fail
  rcases (show kind=2∨kind=14∨kind=21∨(kind≠2∧kind≠14∧kind≠21) by omega) with rfl | rfl | rfl | ⟨k1,k2,k3⟩
  · rcases (show 4 < n∨(n=0∨n=4)∨ (0 < n∧n < 4) by omega) with g | g | ⟨g,g'⟩
    · have HV:Hid (canB ⟨2,ix,sub,tg,la,cr,sz,size,code,data,sq,bl,em,sum⟩=false):= zak (by rw[HC.out,HT.out,Bool.true_and,Bool.and_true];simp;omega)
      clear HC HT q0
      go_wp2_with fail
      all_goals first
       | (go_ret;exact⟨zav HV.out.symm,hbw⟩)
       | (go_ret;refine⟨zav ?_,hbw⟩;rw[HV.out];go_light;simp;omega)
       | (go_ret;refine⟨zav ?_,hbw⟩;rw[HV.out];go_light;simp_all;done)
       | (exfalso;go_light;simp_all;done)
       | (exfalso;go_light;simp_all;omega)
       | fail
    · rcases g with rfl | rfl
      · have HV:Hid (canB ⟨2,ix,sub,tg,la,cr,sz,size,code,data,sq,bl,em,sum⟩=true):= zak (by rw[HC.out,HT.out,Bool.true_and,Bool.and_true];simp)
        clear HC HT q0
        go_wp2_with fail
        all_goals first
         | (go_ret;exact⟨zav HV.out.symm,hbw⟩)
         | (go_ret;refine⟨zav ?_,hbw⟩;rw[HV.out];go_light;simp;omega)
         | (go_ret;refine⟨zav ?_,hbw⟩;rw[HV.out];go_light;simp_all;done)
         | (exfalso;go_light;simp_all;done)
         | (exfalso;go_light;simp_all;omega)
         | fail
      · have HV:Hid (canB ⟨2,ix,sub,tg,la,cr,sz,size,code,data,sq,bl,em,sum⟩=true):= zak (by rw[HC.out,HT.out,Bool.true_and,Bool.and_true];simp)
        clear HC HT q0
        go_wp2_with fail
        all_goals first
         | (go_ret;exact⟨zav HV.out.symm,hbw⟩)
         | (go_ret;refine⟨zav ?_,hbw⟩;rw[HV.out];go_light;simp;omega)
         | (go_ret;refine⟨zav ?_,hbw⟩;rw[HV.out];go_light;simp_all;done)
         | (exfalso;go_light;simp_all;done)
         | (exfalso;go_light;simp_all;omega)
         | fail
    · cases sz
      · have HV:Hid (canB ⟨2,ix,sub,tg,la,cr,false,size,code,data,sq,bl,em,sum⟩=false):= zak (by rw[HC.out,HT.out,Bool.true_and,Bool.and_true];simp;omega)
        clear HC HT q0
        go_wp2_with fail
        all_goals first
         | (go_ret;exact⟨zav HV.out.symm,hbw⟩)
         | (go_ret;refine⟨zav ?_,hbw⟩;rw[HV.out];go_light;simp;omega)
         | (go_ret;refine⟨zav ?_,hbw⟩;rw[HV.out];go_light;simp_all;done)
         | (exfalso;go_light;simp_all;done)
         | (exfalso;go_light;simp_all;omega)
         | fail
      · have HV:Hid (canB ⟨2,ix,sub,tg,la,cr,true,size,code,data,sq,bl,em,sum⟩=true):= zak (by rw[HC.out,HT.out,Bool.true_and,Bool.and_true];simp;omega)
        clear HC HT q0
        go_wp2_with fail
        all_goals first
         | (go_ret;exact⟨zav HV.out.symm,hbw⟩)
         | (go_ret;refine⟨zav ?_,hbw⟩;rw[HV.out];go_light;simp;omega)
         | (go_ret;refine⟨zav ?_,hbw⟩;rw[HV.out];go_light;simp_all;done)
         | (exfalso;go_light;simp_all;done)
         | (exfalso;go_light;simp_all;omega)
         | fail
  · rcases (show 4 < n∨(n=0∨n=4)∨ (0 < n∧n < 4) by omega) with g | g | ⟨g,g'⟩
    · have HV:Hid (canB ⟨14,ix,sub,tg,la,cr,sz,size,code,data,sq,bl,em,sum⟩=false):= zak (by rw[HC.out,HT.out,Bool.true_and,Bool.and_true];simp;omega)
      clear HC HT q0
      go_wp2_with fail
      all_goals first
       | (go_ret;exact⟨zav HV.out.symm,hbw⟩)
       | (go_ret;refine⟨zav ?_,hbw⟩;rw[HV.out];go_light;simp;omega)
       | (go_ret;refine⟨zav ?_,hbw⟩;rw[HV.out];go_light;simp_all;done)
       | (exfalso;go_light;simp_all;done)
       | (exfalso;go_light;simp_all;omega)
       | fail
    · rcases g with rfl | rfl
      · have HV:Hid (canB ⟨14,ix,sub,tg,la,cr,sz,size,code,data,sq,bl,em,sum⟩=true):= zak (by rw[HC.out,HT.out,Bool.true_and,Bool.and_true];simp)
        clear HC HT q0
        go_wp2_with fail
        all_goals first
         | (go_ret;exact⟨zav HV.out.symm,hbw⟩)
         | (go_ret;refine⟨zav ?_,hbw⟩;rw[HV.out];go_light;simp;omega)
         | (go_ret;refine⟨zav ?_,hbw⟩;rw[HV.out];go_light;simp_all;done)
         | (exfalso;go_light;simp_all;done)
         | (exfalso;go_light;simp_all;omega)
         | fail
      · have HV:Hid (canB ⟨14,ix,sub,tg,la,cr,sz,size,code,data,sq,bl,em,sum⟩=true):= zak (by rw[HC.out,HT.out,Bool.true_and,Bool.and_true];simp)
        clear HC HT q0
        go_wp2_with fail
        all_goals first
         | (go_ret;exact⟨zav HV.out.symm,hbw⟩)
         | (go_ret;refine⟨zav ?_,hbw⟩;rw[HV.out];go_light;simp;omega)
         | (go_ret;refine⟨zav ?_,hbw⟩;rw[HV.out];go_light;simp_all;done)
         | (exfalso;go_light;simp_all;done)
         | (exfalso;go_light;simp_all;omega)
         | fail
    · cases sz
      · have HV:Hid (canB ⟨14,ix,sub,tg,la,cr,false,size,code,data,sq,bl,em,sum⟩=false):= zak (by rw[HC.out,HT.out,Bool.true_and,Bool.and_true];simp;omega)
        clear HC HT q0
        go_wp2_with fail
        all_goals first
         | (go_ret;exact⟨zav HV.out.symm,hbw⟩)
         | (go_ret;refine⟨zav ?_,hbw⟩;rw[HV.out];go_light;simp;omega)
         | (go_ret;refine⟨zav ?_,hbw⟩;rw[HV.out];go_light;simp_all;done)
         | (exfalso;go_light;simp_all;done)
         | (exfalso;go_light;simp_all;omega)
         | fail
      · have HV:Hid (canB ⟨14,ix,sub,tg,la,cr,true,size,code,data,sq,bl,em,sum⟩=true):= zak (by rw[HC.out,HT.out,Bool.true_and,Bool.and_true];simp;omega)
        clear HC HT q0
        go_wp2_with fail
        all_goals first
         | (go_ret;exact⟨zav HV.out.symm,hbw⟩)
         | (go_ret;refine⟨zav ?_,hbw⟩;rw[HV.out];go_light;simp;omega)
         | (go_ret;refine⟨zav ?_,hbw⟩;rw[HV.out];go_light;simp_all;done)
         | (exfalso;go_light;simp_all;done)
         | (exfalso;go_light;simp_all;omega)
         | fail
  · rcases (show (n=7∧0 < sq)∨ (n=7∧sq≤0)∨ n≠7 by omega) with ⟨rfl,g⟩ | ⟨rfl,g⟩ | g
    · have HV:Hid (canB ⟨21,ix,sub,tg,la,cr,sz,size,code,data,sq,bl,em,sum⟩=true):= zak (by rw[HC.out,HT.out,Bool.true_and,Bool.and_true];simp;omega)
      clear HC HT q0
      go_wp2_with fail
      all_goals first
       | (go_ret;exact⟨zav HV.out.symm,hbw⟩)
       | (go_ret;refine⟨zav ?_,hbw⟩;rw[HV.out];go_light;simp;omega)
       | (go_ret;refine⟨zav ?_,hbw⟩;rw[HV.out];go_light;simp_all;done)
       | (exfalso;go_light;simp_all;done)
       | (exfalso;go_light;simp_all;omega)
       | fail
    · have HV:Hid (canB ⟨21,ix,sub,tg,la,cr,sz,size,code,data,sq,bl,em,sum⟩=false):= zak (by rw[HC.out,HT.out,Bool.true_and,Bool.and_true];simp;omega)
      clear HC HT q0
      go_wp2_with fail
      all_goals first
       | (go_ret;exact⟨zav HV.out.symm,hbw⟩)
       | (go_ret;refine⟨zav ?_,hbw⟩;rw[HV.out];go_light;simp;omega)
       | (go_ret;refine⟨zav ?_,hbw⟩;rw[HV.out];go_light;simp_all;done)
       | (exfalso;go_light;simp_all;done)
       | (exfalso;go_light;simp_all;omega)
       | fail
    · have HV:Hid (canB ⟨21,ix,sub,tg,la,cr,sz,size,code,data,sq,bl,em,sum⟩=false):= zak (by rw[HC.out,HT.out,Bool.true_and,Bool.and_true];simp;omega)
      have g1:((n:Int) == 7)=false:=by simp;omega
      clear g
      clear HC HT q0
      go_wp2_with fail
      all_goals first
       | (go_ret;exact⟨zav HV.out.symm,hbw⟩)
       | (go_ret;refine⟨zav ?_,hbw⟩;rw[HV.out];go_light;simp;omega)
       | (go_ret;refine⟨zav ?_,hbw⟩;rw[HV.out];go_light;simp_all;done)
       | (exfalso;go_light;simp_all;done)
       | (exfalso;go_light;simp_all;omega)
       | fail
  · have HV:Hid (canB ⟨kind,ix,sub,tg,la,cr,sz,size,code,data,sq,bl,em,sum⟩=true):= zak (by rw[HC.out,HT.out,Bool.true_and,Bool.and_true];rw[if_neg (by omega),if_neg (by omega)])
    have k4:(kind == 2)=false:=by simpa using k1
    have k5:(kind == 14)=false:=by simpa using k2
    have k6:(kind == 21)=false:=by simpa using k3
    have k7:(kind != 21)=true:=by simpa using k3
    clear k1 k2 k3
    clear HC HT q0
    go_wp2_with fail
    all_goals first
     | (go_ret;exact⟨zav HV.out.symm,hbw⟩)
     | (go_ret;refine⟨zav ?_,hbw⟩;rw[HV.out];go_light;simp;omega)
     | (go_ret;refine⟨zav ?_,hbw⟩;rw[HV.out];go_light;simp_all;done)
     | (exfalso;go_light;simp_all;done)
     | (exfalso;go_light;simp_all;omega)
     | fail
theorem zk8 (M:Ms) (A:Option Addr) (n c:Nat) (w:World) (hn:n=M.data.length) (hs:Sl w A (M.data.map bv)) :
 Calls Try.prog 84 #[.agg (msV M A n c)] w fun e w'=>e= .returned (.bool (canB M))∧ Below w.heap.size w w':=by
 by_cases hk:M.kind < 1∨21 < M.kind
 · exact zk4 M A n c w hk
 · exact zk7 M A n c w hn hs (by omega) (by omega)
end
section
open Go.RowKit
theorem zk9 (kind:Int) (ix sub sq bl em size code sum n c:Nat) (tg la cr sz:Bool) (A:Option Addr) (data:List UInt8) (w:World) (k1:1≤kind) (k2:kind≤21) (hu1:size≤4294967295) (hu2:code≤4294967295) (hu3:sum≤65535)
 (A2:ix≤65535) (B2:sub≤255) (C2:sq≤127) (D2:bl≤127) (E2:em≤7) (hn:n=data.length) (hn7:n≤7) (hn4:kind=2∨kind=14→n≤4) (hs:Sl w A (data.map bv)) :
 Calls Try.prog 85 #[.agg #[.int .i64 kind,.int .i64 (ix:Nat),.int .i64 (sub:Nat),.bool tg,.bool la,.bool cr,.bool sz,.int .u32 (size:Nat),.int .u32 (code:Nat),.slice A n c,.int .i64 (sq:Nat),.int .i64 (bl:Nat),.int .i64 (em:Nat),.int .u16 (sum:Nat)]] w (LaidR w (rlaidL kind n ix sub size code sq bl em sum tg la cr sz data)):= by
 rcases (show (kind=1∨kind=2∨kind=3∨kind=4∨kind=5)∨ (kind=6∨kind=7∨kind=8∨kind=9∨kind=10∨kind=11∨kind=12∨kind=13)∨ (kind=14∨kind=16∨kind=17∨kind=18)∨ (kind=15∨kind=19∨kind=20∨kind=21) by omega) with g | g | g | g
 · exact zkw kind ix sub sq bl em size code sum n c tg la cr sz A data w k1 k2 hu1 hu2 hu3 A2 B2 C2 D2 E2 hn hn7 hn4 hs g
 · exact zkx kind ix sub sq bl em size code sum n c tg la cr sz A data w k1 k2 hu1 hu2 hu3 A2 B2 C2 D2 E2 hn hn7 hn4 hs g
 · exact zky kind ix sub sq bl em size code sum n c tg la cr sz A data w k1 k2 hu1 hu2 hu3 A2 B2 C2 D2 E2 hn hn7 hn4 hs g
 · exact zkz kind ix sub sq bl em size code sum n c tg la cr sz A data w k1 k2 hu1 hu2 hu3 A2 B2 C2 D2 E2 hn hn7 hn4 hs g
end
section
open Go.RowKit
set_option maxRecDepth 100000
set_option maxHeartbeats 2000000
theorem zla (M:Ms) (A:Option Addr) (n c:Nat) (w:World) (hn:n=M.data.length) (hs:Sl w A (M.data.map bv)) (hcan:canB M=true) (hu1:M.size≤4294967295) (hu2:M.code≤4294967295) (hu3:M.sum≤65535) :
 Calls Try.prog 85 #[.agg (msV M A n c)] w (LaidR w (laidB M)):= by
 have hrg:rangeB M=true∧shapeB (formI M.kind) M=true∧formI M.kind≠0:=by
  have:=hcan
  simp only[canB,Bool.and_eq_true,decide_eq_true_iff] at this
  exact⟨this.1.1.2,this.1.2,this.1.1.1⟩
 obtain⟨hr1,hsh,hf0⟩:= hrg
 have k1:1≤M.kind∧M.kind≤21:=by
  refine⟨?_,?_⟩
  · rcases Int.lt_or_le M.kind 1 with h | h
    · exact absurd (zax _ (.inl h)) hf0
    · exact h
  · rcases Int.lt_or_le 21 M.kind with h | h
    · exact absurd (zax _ (.inr h)) hf0
    · exact h
 have h4:M.kind=2∨M.kind=14→M.data.length≤4:=by
  intro h
  rw[show formI M.kind=2 by rcases h with h | h<;>rw[h]<;> rfl] at hsh
  simp only[shapeB,if_true,Bool.or_eq_true,Bool.and_eq_true,decide_eq_true_iff] at hsh
  omega
 obtain⟨kind,ix,sub,tg,la,cr,sz,size,code,data,sq,bl,em,sum⟩:= M
 simp only[rangeB,Bool.and_eq_true,decide_eq_true_iff] at hr1 k1 h4 hu1 hu2 hu3 hn hs
 obtain⟨⟨⟨⟨⟨⟨a1,a2⟩,b1,b2⟩,c1,c2⟩,d1,d2⟩,e1,e2⟩,hd7⟩:= hr1
 obtain⟨ix,rfl⟩:= Int.eq_ofNat_of_zero_le a1
 obtain⟨sub,rfl⟩:= Int.eq_ofNat_of_zero_le b1
 obtain⟨sq,rfl⟩:= Int.eq_ofNat_of_zero_le c1
 obtain⟨bl,rfl⟩:= Int.eq_ofNat_of_zero_le d1
 obtain⟨em,rfl⟩:= Int.eq_ofNat_of_zero_le e1
 rw[← zkh kind ix sub sq bl em size code sum tg la cr sz data k1.1 k1.2 (by omega) (by omega) (by omega) h4,← hn]
 exact zk9 kind ix sub sq bl em size code sum n c tg la cr sz A data w k1.1 k1.2 hu1 hu2 hu3 (by omega) (by omega) (by omega) (by omega) (by omega) hn (by omega) (by omega) hs
theorem zlb (M:Ms) (A:Option Addr) (n c:Nat) (w:World) (hn:n=M.data.length) (hs:Sl w A (M.data.map bv)) (hu1:M.size≤4294967295) (hu2:M.code≤4294967295) (hu3:M.sum≤65535) :
 Calls Try.prog 77 #[.agg (msV M A n c)] w (BuildM M w):= by
 have q0:=zbu w 72 (msV M A n c)
 have hs1:=hs.alloc (.cells (msV M A n c) 72)
 have HC:=zak (fun W h=>zk8 M A n c W hn h)
 have HL:=zak (fun W h hcan=>zla M A n c W hn h hcan hu1 hu2 hu3)
 have hbw:=zbp (Below.refl w.heap.size w) (.cells (msV M A n c) 72)
 have HE:Hid (∀ e w',(∃ A' n' c',e= .returned (.tuple #[.slice A' n' c',.int .i64 (if canB M=true then 0 else 1)])∧ zb7 w' w.heap.size A' n' c' (if canB M=true then laidB M else [])∧ Below w.heap.size w w')→ BuildM M w e w'):= zak (fun e w' h=>h)
 obtain⟨P,hP⟩:∃ P,P=BuildM M w:=⟨_,rfl⟩
 rw[← hP] at HE ⊢
 obtain⟨L,hL⟩:∃ L,L=laidB M:=⟨_,rfl⟩
 rw[← hL] at HL HE
 obtain⟨cn,hcn⟩:∃ cn,cn=canB M:=⟨_,rfl⟩
 rw[← hcn] at HC HE HL
 clear hP hL hcn hn hs
 obtain⟨kind,ix,sub,tg,la,cr,sz,size,code,data,sq,bl,em,sum⟩:= M
 simp only[msV] at *
 go_enter Try.func77,Try.ntmps77
 have lq:=q0.lt
 go_wp2_with fail
 generalize w.alloc (.cells #[.int .i64 kind,.int .i64 ix,.int .i64 sub,.bool tg,.bool la,.bool cr,.bool sz,.int .u32 (size:Nat),.int .u32 (code:Nat),.slice A n c,.int .i64 sq,.int .i64 bl,.int .i64 em,.int .u16 (sum:Nat)] 72)=W at *
 refine (HC.out W hs1).mono ?_
 rintro e w2 ⟨rfl,hb2⟩
 have q2:=q0.below hb2 lq
 have hs2:=hs1.below hb2
 replace hbw:=zbo hb2 hbw
 obtain⟨q2_c0,q2_c1,q2_c2,q2_c3,q2_c4,q2_c5,q2_c6,q2_c7,q2_c8,q2_c9,q2_c10,q2_c11,q2_c12,q2_c13⟩:= zbs q2
 have q2_f:=q2.frozen
 clear q0 hs1
 cases cn
 · go_wp2_with fail
   exact HE.out _ _ ⟨none,0,0,rfl,zb7.nil _ _,hbw⟩
 · go_wp2_with fail
   refine (HL.out w2 hs2 (by first | exact rfl | trivial)).mono ?_
   rintro e w3 ⟨g,rfl,hO3,hb3⟩
   go_wp2_with fail
   exact HE.out _ _ ⟨_,8,8,rfl,hO3.mono hbw.size,zbo hb3 hbw⟩
end
end
section
open Go.RowKit Go.Maps
set_option maxRecDepth 100000
set_option maxHeartbeats 4000000
theorem zlc (id:Int) (L:List Ms) (k:Nat) (M:Ms) (h:L[k]? =some M):rfrmL id (L.take (k+1))=rfrmL id (L.take k) ++ [⟨id,false,if canB M=true then laidB M else []⟩]:= by
 obtain⟨hk,hx⟩:= List.getElem?_eq_some_iff.1 h
 rw[List.take_succ_eq_append_getElem hk,hx]
 unfold rfrmL
 rw[List.map_append]
 rfl
def RSendR (id:Int) (L:List Ms) (W:World) (e:Ending) (W':World):Prop:=
 ∃ A' n' c' ds,e= .returned (.slice A' n' c')∧ zfe W' (fun g=>W.heap.size≤g) A' n' c' (rfrmL id L) ds∧Below W.heap.size W W'
theorem zld (q:Nat) (nd:Int) (L:List Ms) (A:Option Addr) (n c:Nat) (W:World) (h1:W.cell? ⟨q,0,none⟩=some (.int .i64 nd)) (hnd:1≤nd∧nd≤127) (hn:n=L.length) (hL:SlM W A L) (hu:∀ M ∈ L,MsOk M) (hl:n≤1000) :
 Calls Try.prog 53 #[.pointer (some ⟨q,0,none⟩),.slice A n c] W (RSendR (1536+nd) L W):= by
 have HL:=zak hL
 have HU:=zak hu
 have HN:=zak hn
 have hz:=zal h1
 simp only at hz
 clear hL hu hn
 obtain⟨id,hid⟩:∃ id,id=1536+nd:=⟨_,rfl⟩
 rw[← hid]
 have hwr:IntKind.i64.wrap (1536+nd)=id:=by rw[hid];unfold IntKind.wrap;simp[IntKind.signed,IntKind.bits];omega
 clear hid
 obtain⟨i0,hi0,hz0,hz1,hz2⟩:= info_parts zfb
 go_enter Try.func53,Try.ntmps53
 go_wp2_with fail
 go_loopw [5,6,7,8,9,10,11,12,13,14,15,16,17,18,19,20,21,22,23,24,25,26,27,28,29,30,31,32] (fun v5 v6 _ _ _ _ _ _ _ _ _ _ _ _ _ _ _ _ _ _ _ _ _ _ _ _ _ _ wr=> ∃ k A' c' ds,v6= .int .i64 (k:Nat)∧ v5= .slice A' k c'∧k≤n∧Hid (zfe wr (fun g=>W.heap.size≤g) A' k c' (rfrmL id (L.take k)) ds∧Below W.heap.size W wr)) (fun _ v6 _ _ _ _ _ _ _ _ _ _ _ _ _ _ _ _ _ _ _ _ _ _ _ _ _ _ _=>n - (intOf v6).toNat)
 case atStart=>exact⟨0,none,0,[],rfl,rfl,Nat.zero_le _,zak ⟨zfe.nil _ _,Below.refl _ _⟩⟩
 case round=>
  obtain⟨k,A',c',ds,rfl,rfl,hk,HR⟩:= hrel
  by_cases hlt:k < n
  · obtain⟨M,hM⟩:∃ M,L[k]? =some M:=⟨L[k]'(by rw[← HN.out];exact hlt),List.getElem?_eq_getElem _⟩
    have HM:=zak hM
    obtain⟨b,off,Aj,cj,hA,⟨c0,c1,c2,c3,c4,c5,c6,c7,c8,c9,c10,c11,c12,c13⟩,hs⟩:= (HL.out.below HR.out.2) k M hM
    subst hA
    replace c0:wr.cell? ⟨b,off+k * 14,none⟩=some (.int .i64 M.kind):= c0
    have HS:=zak hs
    have HB:=zak HR.out.2
    have HO:=zak HR.out.1
    have zr:=HR.out.2.size
    have hU:=HU.out M (List.mem_of_getElem? hM)
    have HBD:=zak (fun W' (h:Sl W' Aj (M.data.map bv))=> zlb M Aj M.data.length cj W' rfl h hU.1 hU.2.1 hU.2.2)
    unfold msV at HBD
    clear hM hs hU
    go_wp2_with fail
    refine (HBD.out _ HS.out).mono ?_
    rintro e w2 ⟨A2,n2,cc,rfl,hO2,hb2⟩
    have HB2:=zak (HB.out.trans (hb2.mono zr))
    have HO2:=zak (HO.out.below hb2)
    have z2:wr.heap.size≤w2.heap.size:=hb2.size
    have h12:w2.cell? ⟨q,0,none⟩=some (.int .i64 nd):= (HB2.out.cell hz).trans h1
    have zp2:q < w2.heap.size:=by omega
    have HST:=zak (zlc id L k M HM.out)
    have HD2:=zak (show ∃ d,d=(if canB M=true then laidB M else []) from ⟨_,rfl⟩)
    obtain⟨d,hd⟩:= HD2.out
    rw[← hd] at hO2 HST
    obtain rfl:n2=d.length:=hO2.hn
    have HOd:=zak (hO2.mono (Nat.zero_le _))
    have HAP:=zak (HR.out.1.2.snoc (d:=(A2,cc)) (N:=wr.heap.size) (zfd HR.out.1.1) (hO2.own.fin.mono (fun g h=>h.1)))
    have HFd:=zak (hO2.own.fin.mono (G:=fun g=>W.heap.size≤g) (fun g h=>by have:=h.1;omega))
    have hm1:k≤1000:=by omega
    clear hb2 hd HD2 hO2 c0 c1 c2 c3 c4 c5 c6 c7 c8 c9 c10 c11 c12 c13
    go_wp2_with (at_builtin;refine zck _ rfl _ _ 37 rfl ze9 zfa tfr8 i0 _ 40 Try.underlying37 hi0 hz0 hz1 hz2 rfl (by omega) (by omega) A' k c' (rfrmL id (L.take k)) ds rfl (HO2.out.1.below (zbp (Below.refl _ _) _)) ⟨id,false,d⟩ (A2,cc) _ rfl (by exact (zbu _ _ _).sl) (HOd.out.alloc _) HFd.out (fun g h=>by simp at h;omega) (by omega) (k+1) rfl ?_;intro A4 c4 w4 hO4 hg4 hr4)
    have hgb:Below W.heap.size (w2.alloc (.cells #[.int .i64 id,.bool false,.slice A2 d.length cc] 34)) w4:=(zcd.of_grown (F:=fun g=>W.heap.size≤g) hg4 (fun g e=>zfi HO2.out.1 e)).below (by simp;omega) (fun i h=>h)
    exact⟨⟨k+1,A4,c4,_,by congr 1,rfl,by omega,zak ⟨⟨by rw[HST];exact hO4,HAP.out⟩,(zbp HB2.out _).trans hgb⟩⟩,by simp only[intOf];omega⟩
  · obtain rfl:k=n:=by omega
    go_wp2_with fail
    go_ret
    refine⟨A',k,c',ds,rfl,?_,HR.out.2⟩
    have:=HR.out.1
    rwa [show L.take k=L by rw[HN.out];exact List.take_length] at this
end
end Go.Proofs.Ythdbckbpldlkeaa
