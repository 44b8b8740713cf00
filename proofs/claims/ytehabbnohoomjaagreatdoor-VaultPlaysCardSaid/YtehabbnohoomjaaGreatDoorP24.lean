/- None -/
import Derived.RegionCalls
import Derived.Test.YtehabbnohoomjaaGreatDoorP23
namespace Go.Proofs.YtehabbnohoomjaaGreatDoor
set_option linter.unusedVariables false
set_option linter.unusedSimpArgs false
set_option linter.unnecessarySimpa false
section
section
section
open Go.RowKit
set_option maxRecDepth 20000
set_option maxHeartbeats 400000
def thereB (i s:Int):Bool:=decide (1≤i∧i≤65535∧0≤s∧s≤255)
def aheadB (i s j t:Int):Bool:=decide (i < j∨i=j∧s < t)
theorem znj (i s:Int) (d:Value) (w:World) :
 Calls Tryz.prog 123 #[.agg #[.int .i64 i,.int .i64 s,d]] w fun e w'=>e= .returned (.bool (thereB i s))∧ Below w.heap.size w w':=by
 go_enter Tryz.func123,Tryz.ntmps123
 go_wp2
 all_goals
  go_ret
  refine⟨za1 ?_,(Below.refl _ _).alloc (Nat.le_refl _) _⟩
  rw[Bool.eq_iff_iff]
  simp[thereB]
  omega
theorem znk (i s j t:Int) (a2 a3 a4 a5 a6 a7 a8 a9 a10 b2 b3 b4 b5 b6 b7 b8 b9 b10:Value) (w:World) :
 Calls Tryz.prog 57 #[.agg #[.int .i64 i,.int .i64 s,a2,a3,a4,a5,a6,a7,a8,a9,a10],.agg #[.int .i64 j,.int .i64 t,b2,b3,b4,b5,b6,b7,b8,b9,b10]] w
  fun e w'=>e= .returned (.bool (aheadB i s j t))∧ Below w.heap.size w w':=by
 go_enter Tryz.func57,Tryz.ntmps57
 go_wp2
 all_goals
  go_ret
  refine⟨za1 ?_,((Below.refl _ _).alloc (Nat.le_refl _) _).alloc (by simp) _⟩
  rw[Bool.eq_iff_iff]
  simp[aheadB] at *
  omega
theorem znl (i s:Int) (d:Value) (w:World) :
 Calls Tryz.prog 96 #[.agg #[.int .i64 i,.int .i64 s,d]] w fun e w'=>e= .returned (.agg #[.int .i64 i,.int .i64 s,.string ByteArray.empty,.int .i64 0,.int .i64 0,.bool false,.bool false,.int .i64 0,.int .i64 0,.int .i64 0,.slice none 0 0])∧ Below w.heap.size w w':=by
 go_enter Tryz.func96,Tryz.ntmps96
 go_wp2
 exact bodyPost_ret (v:= .agg #[.int .i64 i,.int .i64 s,.string ByteArray.empty,.int .i64 0,.int .i64 0,.bool false,.bool false,.int .i64 0,.int .i64 0,.int .i64 0,.slice none 0 0])
  (by simp[results,Tryz.results96,go_sem];rfl) rfl ⟨rfl,((Below.refl _ _).alloc (Nat.le_refl _) _).alloc (by simp) _⟩
set_option maxHeartbeats 1000000 in
theorem znm (i s j t:Int) (d d':Value) (w:World) :
 Calls Tryz.prog 83 #[.agg #[.int .i64 i,.int .i64 s,d],.agg #[.int .i64 j,.int .i64 t,d']] w
  fun e w'=>e= .returned (.bool (aheadB i s j t))∧ Below w.heap.size w w':=by
 go_enter Tryz.func83,Tryz.ntmps83
 go_wp2_with fail
 go_region_held3 (fun w'=>(∀ qA:Addr,qA.block < ((w.alloc (Obj.cells #[Value.int IntKind.i64 i,Value.int IntKind.i64 s,d] 52)).alloc (Obj.cells #[Value.int IntKind.i64 j,Value.int IntKind.i64 t,d'] 52)).heap.size→w'.cell? qA=((w.alloc (Obj.cells #[Value.int IntKind.i64 i,Value.int IntKind.i64 s,d] 52)).alloc (Obj.cells #[Value.int IntKind.i64 j,Value.int IntKind.i64 t,d'] 52)).cell? qA)∧ Below ((w.alloc (Obj.cells #[Value.int IntKind.i64 i,Value.int IntKind.i64 s,d] 52)).alloc (Obj.cells #[Value.int IntKind.i64 j,Value.int IntKind.i64 t,d'] 52)).heap.size ((w.alloc (Obj.cells #[Value.int IntKind.i64 i,Value.int IntKind.i64 s,d] 52)).alloc (Obj.cells #[Value.int IntKind.i64 j,Value.int IntKind.i64 t,d'] 52)) w') (((try go_split_ands);refine zbc ?_;all_goals exact bl)) (first
  | (go_at_call 96;refine (znl _ _ _ _).mono ?_;rintro e w1 ⟨rfl,hb1⟩)
  | (go_at_call 57;refine (znk _ _ _ _ _ _ _ _ _ _ _ _ _ _ _ _ _ _ _ _ _ _ _).mono ?_;rintro e w2 ⟨rfl,hb2⟩))
 go_wp2
 go_ret
 exact⟨rfl,zbd (by assumption:_∧_).2 (zbf (zbf (Below.refl _ _) _) _)⟩
theorem znn (i s:Int) (A:Option Addr) (n c:Nat) (l:List UInt8) (w:World) (hn:n=l.length) (hl:n≤35184372088832) (hs:Sl w A (l.map bv)) :
 Calls Tryz.prog 97 #[.agg #[.int .i64 i,.int .i64 s,.slice A n c]] w fun e w'=> ∃ A' c',e= .returned (.agg #[.int .i64 i,.int .i64 s,.slice A' n c'])∧ zcd w' w.heap.size A' n c' l∧Below w.heap.size w w':=by
 have HL:=zak (show l.take n ++ List.drop n (List.replicate n (0:UInt8))=l by rw[hn];simp)
 have HN:=zak hn
 clear hn
 have K0:=zbn w 52 52 #[.int .i64 i,.int .i64 s,.slice A n c] #[.int .i64 0,.int .i64 0,.slice none 0 0]
 go_enter Tryz.func97,Tryz.ntmps97
 go_wp2_with (first
  | (at_make;refine mk_b _ rfl _ _ rfl _ _ _ _ n n rfl rfl rfl rfl (Nat.le_refl _) (by omega) (w.heap.size+1+1) (by simp) ?_;intro w1 hown1 hz1 hb1;have hs1:=hs.below (zbe hb1 (by omega) (zbf (zbf (Below.refl _ _) _) _));have k1:=K0.1.below hb1 (by omega);have c12:=k1.cell 2 rfl;have k1':=K0.2.below hb1 (by omega))
  | (with_reducible refine zcf _ rfl (.tmp 8) (.tmp 10) rfl (w.heap.size+1+1) _ _ _ rfl hown1 _ _ _ l rfl HN.out hs1 (Nat.le_of_lt hz1) l HL.out ?_;intro w2 hO2 _ hb2;have k2:=k1.below hb2 (by omega);have k2':=k1'.below hb2 (by omega);have c20:=k2.cell 0 rfl;have c21:=k2.cell 1 rfl;have c22:=k2.cell 2 rfl;have f22:=k2.frozen 2;have d20:=k2'.cell 0 rfl;have d21:=k2'.cell 1 rfl;have d22:=k2'.cell 2 rfl;have e20:=k2'.frozen 0;have e21:=k2'.frozen 1;have e22:=k2'.frozen 2)
  )
 refine bodyPost_ret (v:= .agg #[.int .i64 i,.int .i64 s,.slice (some ⟨w.heap.size+1+1,0,none⟩) n n]) (by simp[results,Tryz.results97,go_sem,d20,d21,d22]) rfl ⟨_,_,rfl,?_,?_⟩
 · exact ((((hO2.set_ (by simp;omega) _).set_ (by simp) _).set_ (by simp) _).set_ (by simp) _).mono (by omega)
 · exact zbp (zbp (zbp (zbp (zbe hb2 (by omega) (zbe hb1 (by omega) (zbf (zbf (Below.refl _ _) _) _))) (by simp) _) (by simp) _) (by simp) _) (by simp) _
end
section
open Go.RowKit
set_option maxRecDepth 20000
set_option maxHeartbeats 1000000
def chkV (L:List SV) (k:Nat):Int:=
 if thereB (L.getD k ⟨0,0,[]⟩).ix (L.getD k ⟨0,0,[]⟩).sub=false then 9
 else if 0 < k∧aheadB (L.getD (k - 1) ⟨0,0,[]⟩).ix (L.getD (k - 1) ⟨0,0,[]⟩).sub (L.getD k ⟨0,0,[]⟩).ix (L.getD k ⟨0,0,[]⟩).sub=false then 16 else 0
def vbytes (v:SV):List UInt8:=leB 2 v.ix.toNat ++ leB 1 v.sub.toNat ++ leB 2 v.data.length ++ v.data
def BuildR (L:List SV) (b:List UInt8) (e:Int):Prop:=
 (e≠0∧b= []∧ ∃ k,k < L.length∧chkV L k=e∧ ∀ j,j < k→chkV L j=0)∨
 ((∀ j,j < L.length→chkV L j=0)∧ ((960 < (L.flatMap vbytes).length∧b= []∧ e=3)∨ ((L.flatMap vbytes).length≤960∧b=L.flatMap vbytes∧e=0)))
theorem zno (v:SV):(vbytes v).length=5+v.data.length:=by simp[vbytes,zan];omega
theorem znp (L:List SV) (k:Nat) (v:SV) (hv:L[k]? =some v):(L.take (k+1)).flatMap vbytes=(L.take k).flatMap vbytes ++ vbytes v:=by
 obtain⟨hk,rfl⟩:= List.getElem?_eq_some_iff.1 hv
 rw[List.take_succ_eq_append_getElem hk,List.flatMap_append]
 simp only[List.flatMap_cons,List.flatMap_nil,List.append_nil]
theorem znq (L:List SV) (k:Nat):((L.take k).flatMap vbytes).length≤(L.flatMap vbytes).length:=by
 have:=congrArg List.length (congrArg (List.flatMap vbytes) (List.take_append_drop k L))
 rw[List.flatMap_append,List.length_append] at this
 omega
theorem znr {L:List SV} {k:Nat} {v:SV} (hv:L[k]? =some v) (h:chkV L k=0):1≤v.ix∧v.ix≤65535∧0≤v.sub∧v.sub≤255:=by
 unfold chkV at h
 rw[List.getD_eq_getElem?_getD,hv] at h
 simp only[Option.getD_some] at h
 split at h
 · omega
 · rename_i hh
   simpa [thereB] using hh
theorem zns {L:List SV} {k:Nat} {v u:SV} (hv:L[k]? =some v) (hu:L[k - 1]? =some u) (hk:1≤k) (ht:thereB v.ix v.sub=true) (ha:aheadB u.ix u.sub v.ix v.sub=false):chkV L k=16:=by
 unfold chkV
 simp only[List.getD_eq_getElem?_getD,hv,hu,Option.getD_some]
 rw[if_neg (by rw[ht];simp),if_pos ⟨by omega,ha⟩]
theorem znt (A:Option Addr) (n c:Nat) (L:List SV) (w:World) (hn:n=L.length) (hc:n≤c) (hl:n≤35184372088832) (hL:SlV w A L) (hf:fitsV L) :
 Calls Tryz.prog 132 #[.slice A n c] w fun e w'=> ∃ A' n' c' b er,e= .returned (.tuple #[.slice A' n' c',.int .i64 er])∧ zcd w' w.heap.size A' n' c' b∧BuildR L b er∧Below w.heap.size w w':=by
 have HN:=zak hn
 clear hn
 go_enter Tryz.func132,Tryz.ntmps132
 go_wp2_with fail
 go_loopw [11] (fun i wr=> ∃ k,k≤n∧i= .int .i64 (k:Nat)∧ (∀ j,j < k→chkV L j=0)∧ Below w.heap.size w wr) (fun i _=>n - (intOf i).toNat)
 case atStart=>exact⟨0,by omega,rfl,by omega,Below.refl _ _⟩
 case round=>
  obtain⟨k,hk,rfl,hchk,hbr⟩:= hrel
  have HC:=zak hchk
  clear hchk
  by_cases hlt:k < n
  · obtain⟨v,hv⟩:∃ v,L[k]? =some v:=⟨L[k]'(by have:=HN.out;omega),List.getElem?_eq_getElem _⟩
    obtain⟨b,off,Aj,cj,rfl,h0,h1,h2,h4,h5⟩:= (hL.below hbr) k v hv
    have HV:=zak hv
    clear hv
    by_cases ht:thereB v.ix v.sub=true
    · have hk0:k=0∨1≤k:=by omega
      rcases hk0 with hk0 | hk0
      · have hd:decide ((0:Int) < (k:Int))=false:=by simp;omega
        have hd':decide (0 < k)=false:=by simp;omega
        have HK:=zak hk0
        clear hk0
        go_wp2_with (go_at_call 123;refine (znj _ _ _ _).mono ?_;rintro e w1 ⟨rfl,hb1⟩)
        go_quiet (fail)
        go_wp2
        go_roundw
        case rel=>
         refine⟨k+1,by omega,by go_num,?_,(zbd hb1 (zbf hbr _)).trans ?_⟩
         · intro j hj
           rcases Nat.lt_succ_iff_lt_or_eq.1 hj with h | h
           · exact HC.out j h
           · subst h;have:=HK.out;simp[chkV,List.getD,HV.out,ht];omega
         · exact⟨rfl,rfl,rfl,Nat.le_refl _,fun _ _=>rfl⟩
        case measure=>simp[intOf];omega
      · obtain⟨u,hu⟩:∃ u,L[k - 1]? =some u:=⟨L[k - 1]'(by have:=HN.out;omega),List.getElem?_eq_getElem _⟩
        by_cases ha:aheadB u.ix u.sub v.ix v.sub=true
        all_goals
         try have ha:=Bool.eq_false_of_not_eq_true ha
         go_wp2_with (go_at_call 123;refine (znj _ _ _ _).mono ?_;rintro e w1 ⟨rfl,hb1⟩)
         obtain⟨b',off',Ap,cp,hA,g0,g1,g2,g4,g5⟩:= (hL.below (zbd hb1 (zbf hbr _))) (k - 1) u hu
         injection hA with hA
         injection hA with hA1 hA2
         subst hA1
         subst hA2
         have HU:=zak hu
         clear hu
         have k1:=(zbm _ _ _).below hb1 (by simp)
         have c0:=k1.cell 0 rfl
         have c1:=k1.cell 1 rfl
         have c2:=k1.cell 2 rfl
         have z1:=zal g0
         have z2:=zal c0
         simp only[] at z1 z2
         obtain⟨q1,q2,q3,q4,q5,q6,q7,q8,q9,q10,q11⟩:= zbq hk0 hk (by omega)
         go_region_held3 (fun w'=>(∀ qA:Addr,qA.block < (w1).heap.size→w'.cell? qA=(w1).cell? qA)∧ Below (w1).heap.size (w1) w') (((try go_split_ands);refine zbc ?_;all_goals exact bl)) (first
          | (go_at_call 83;refine (znm _ _ _ _ _ _ _).mono ?_;rintro e w2 ⟨rfl,hb2⟩))
         clear q1 q2 q3 q4 q5 q6 q7 q8 q9 q10 q11
         have hb3:=zbd (by assumption:_∧Below _ w1 w2).2 (zbd hb1 (zbf hbr _))
         go_wp2
        · go_roundw
          case rel=>
           refine⟨k+1,by omega,by go_num,?_,hb3⟩
           intro j hj
           rcases Nat.lt_succ_iff_lt_or_eq.1 hj with h | h
           · exact HC.out j h
           · subst h;simp[chkV,List.getD,HV.out,HU.out,ht,ha]
          case measure=>simp[intOf];omega
        · go_ret2
          refine⟨_,_,_,[],_,rfl,zcd.nil _ _,.inl ⟨by omega,rfl,k,by have:=HN.out;omega,?_,HC.out⟩,hb3⟩
          simp[chkV,List.getD,HV.out,HU.out,ht,ha];omega
    · have ht':thereB v.ix v.sub=false:=by simpa using ht
      go_wp2_with (go_at_call 123;refine (znj _ _ _ _).mono ?_;rintro e w1 ⟨rfl,hb1⟩)
      go_ret2
      refine⟨_,_,_,[],_,rfl,zcd.nil _ _,.inl ⟨by omega,rfl,k,by have:=HN.out;omega,?_,HC.out⟩,?_⟩
      · simp[chkV,List.getD,HV.out,ht']
      · exact zbd hb1 (zbf hbr _)
  · have hkn:k=n:=by omega
    subst hkn
    go_wp2_with fail
    go_loopw [6,34] (fun v i wr=> ∃ j bA bn bc b,j≤k∧i= .int .i64 (j:Nat)∧ v= .slice bA bn bc∧zcd wr w.heap.size bA bn bc b∧b=(L.take j).flatMap vbytes∧bn≤960∧Below w.heap.size w wr) (fun _ i _=>k - (intOf i).toNat)
    case atStart=>exact⟨0,_,_,_,[],by omega,rfl,rfl,zcd.nil _ _,by simp,by omega,hbr⟩
    case round=>
     clear hbr
     obtain⟨j,bA,bn,bc,b,hj,rfl,rfl,hO,hb,hbn,hbr⟩:= hrel
     have HB:=zak hb
     clear hb
     by_cases hjk:j < k
     · obtain⟨⟨ix,sub,data⟩,hv⟩:∃ v,L[j]? =some v:=⟨L[j]'(by have:=HN.out;omega),List.getElem?_eq_getElem _⟩
       obtain⟨t1,t2,t3,t4⟩:= znr hv (HC.out j hjk)
       obtain⟨bb,off,Aj,cj,rfl,h0,h1,h2,h4,h5⟩:= (hL.below hbr) j _ hv
       have hfd:=hf _ (List.mem_of_getElem? hv)
       simp only[] at t1 t2 t3 t4 h0 h1 h2 h4 h5 hfd
       obtain⟨ix,rfl⟩:= Int.eq_ofNat_of_zero_le (show 0≤ix by omega)
       obtain⟨sub,rfl⟩:= Int.eq_ofNat_of_zero_le t3
       have HV:=zak hv
       clear hv
       obtain⟨m,hm⟩:∃ m,m=data.length:=⟨_,rfl⟩
       rw[← hm] at h2 h4 hfd
       have HM:=zak hm
       clear hm
       by_cases hbig:(955:Int) - bn < m
       · go_wp2_with fail
         go_ret2
         refine⟨_,_,_,[],_,rfl,zcd.nil _ _,.inr ⟨by have:=HN.out;subst this;exact HC.out,.inl ⟨?_,rfl,rfl⟩⟩,zbf hbr _⟩
         have e1:=znp L j _ HV.out
         have e2:=znq L (j+1)
         have e3:=hO.hn
         rw[e1,List.length_append,← HB.out,← e3,zno] at e2
         have:=HM.out
         simp only[] at e2
         omega
       · have hbig':(m:Int)≤ 955 - bn:=by omega
         go_wp2_with fail
         refine (zcz _ _ _ b _ ix _ hO.hn (by omega) (by omega) (by rw[p2];omega) (by omega) (hO.sl.alloc _)).mono ?_
         rintro e w1 ⟨A1,n1,c1,rfl,hO1,hb1⟩
         have k1:=(zbm wr 52 #[.int .i64 ix,.int .i64 sub,.slice Aj m cj]).below hb1 (by simp)
         have x1:=k1.cell 1 rfl
         have x2:=k1.cell 2 rfl
         have l1:n1≤970:=by have:=hO1.hn;have:=hO.hn;simp[zan] at *;omega
         go_wp2_with fail
         refine (zcz _ _ _ _ _ sub _ hO1.hn (by omega) (by omega) (by rw[p1];omega) (by omega) hO1.sl).mono ?_
         rintro e w2 ⟨A2,n2,c2,rfl,hO2,hb2⟩
         have k2:=k1.below hb2 k1.lt
         have y2:=k2.cell 2 rfl
         have l2:n2≤970:=by have:=hO2.hn;have:=hO.hn;simp[zan] at *;omega
         clear x1 x2 k1
         go_wp2_with fail
         refine (zcz _ _ _ _ _ m _ hO2.hn (by omega) (by omega) (by rw[p2];omega) (by omega) hO2.sl).mono ?_
         rintro e w3 ⟨A3,n3,c3,rfl,hO3,hb3⟩
         have k3:=k2.below hb3 k2.lt
         have z2:=k3.cell 2 rfl
         have l3:n3≤970:=by have:=hO3.hn;have:=hO.hn;simp[zan] at *;omega
         clear y2 k2
         have hbb:=zbd hb3 (zbd hb2 (zbd hb1 (zbf hbr _)))
         have hB3:w.heap.size≤w3.heap.size:=hbb.size
         have h5':=h5.below (zbd hb3 (zbd hb2 (zbd hb1 (zbf (Below.refl _ _) _))))
         go_wp2_with (at_builtin;refine zce _ rfl (.tmp 70) (.tmp 72) rfl w.heap.size _ _ _ _ rfl (hO3.mono (by have:=hbr.size;have:=hb1.size;have:=hb2.size;simp at *;omega)) _ _ _ data rfl HM.out h5' (by omega) hB3 (n3+m) rfl ?_;intro A4 c4 w4 hO4 _ _ hb4)
         go_roundw
         case rel=>
          refine⟨j+1,_,_,_,_,by omega,by go_num,rfl,hO4,?_,?_,hbb.trans hb4⟩
          · rw[znp L j _ HV.out,← HB.out]
            simp[vbytes,← HM.out]
          · have:=hO4.hn;have:=hO.hn;have:=HM.out;simp[zan] at *;omega
         case measure=>simp[intOf];omega
     · have hjk':j=k:=by omega
       subst hjk'
       go_wp2_with fail
       go_ret2
       have hnl:=HN.out
       have e1:L.take j=L:=List.take_of_length_le (by omega)
       refine⟨_,_,_,b,_,rfl,hO,.inr ⟨by subst hnl;exact HC.out,.inr ⟨?_,?_,rfl⟩⟩,hbr⟩
       · rw[← e1,← HB.out,← hO.hn];exact hbn
       · rw[HB.out,e1]
end
section
open Go.RowKit
set_option maxRecDepth 20000
set_option maxHeartbeats 1000000
def oneS (l:List UInt8):SV×List UInt8×Int:=
 if l.length < 5 then (⟨0,0,[]⟩,[],2)
 else if l.length - 5 < leN ((l.drop 3).take 2) then (⟨0,0,[]⟩,[],2)
 else if thereB (leN (l.take 2)) ((l.getD 2 0).toNat)=false then (⟨0,0,[]⟩,[],9)
 else (⟨leN (l.take 2),(l.getD 2 0).toNat,(l.drop 5).take (leN ((l.drop 3).take 2))⟩,(l.drop 5).drop (leN ((l.drop 3).take 2)),0)
theorem znu (l:List UInt8) (h:l.length≤2):leN l≤65535:=by
 have h1:=zao l
 have h2:256 ^ l.length≤256 ^ 2:=Nat.pow_le_pow_right (by omega) h
 omega
theorem znv (A:Option Addr) (n c:Nat) (l:List UInt8) (w:World) (hn:n=l.length) (hc:n≤c) (hl:n≤35184372088832) (hs:Sl w A (l.map bv)) :
 Calls Tryz.prog 82 #[.slice A n c] w fun e w'=> ∃ v rest er A1 c1 A2 n2 c2,e= .returned (.tuple #[.agg #[.int .i64 v.ix,.int .i64 v.sub,.slice A1 v.data.length c1],.slice A2 n2 c2,.int .i64 er])∧ oneS l=(v,rest,er)∧
  zcd w' w.heap.size A1 v.data.length c1 v.data∧n2=rest.length∧n2≤c2∧c2≤c∧(∀ W,Sl W A (l.map bv)→ Sl W A2 (rest.map bv))∧ Below w.heap.size w w'∧(er=0→n2+5+v.data.length=n∧1≤v.ix∧v.ix≤65535∧0≤v.sub∧v.sub≤255):= by
 by_cases h5:n < 5
 · have HE:=zak (show oneS l=(⟨0,0,[]⟩,[],2) by simp[oneS];omega)
   clear hn
   go_enter Tryz.func82,Tryz.ntmps82
   go_wp2_with fail
   refine bodyPost_ret (v:= .tuple #[.agg #[.int .i64 0,.int .i64 0,.slice none 0 0],.slice none 0 0,.int .i64 2]) (by simp[results,Tryz.results82,go_sem]) rfl ⟨⟨0,0,[]⟩,[],2,_,_,_,_,_,rfl,HE.out,zcd.nil _ _,rfl,Nat.le_refl _,Nat.zero_le _,fun _ _=>Sl.nil _ _,?_,by omega⟩
   exact zbf (Below.refl _ _) _
 · have h5':5≤n:=by omega
   obtain⟨x0,hx0⟩:∃ x0,x0=leN (l.take 2):= ⟨_,rfl⟩
   obtain⟨m,hm⟩:∃ m,m=leN ((l.drop 3).take 2):= ⟨_,rfl⟩
   have G1:∀ W,Sl W A (l.map bv)→ Calls Tryz.prog 122 #[.slice A n c,.int .i64 0,.int .i64 2] W fun e w'=>e= .returned (.tuple #[.int .u64 x0,.int .i64 0])∧ W=w':=
    fun W h=>(zc0 A n c l 0 2 W hn hc (by omega) (by omega) (by omega) (by omega) (by omega) h).mono fun e w' h=>by rw[hx0];exact h
   have G2:∀ W,Sl W A (l.map bv)→ Calls Tryz.prog 122 #[.slice A n c,.int .i64 3,.int .i64 2] W fun e w'=>e= .returned (.tuple #[.int .u64 m,.int .i64 0])∧ W=w':=
    fun W h=>(zc0 A n c l 3 2 W hn hc (by omega) (by omega) (by omega) (by omega) (by omega) h).mono fun e w' h=>by rw[hm];exact h
   have HG1:=zak G1
   have HG2:=zak G2
   have lx:x0≤65535:=by rw[hx0];exact znu _ (by simp;omega)
   have lm:m≤65535:=by rw[hm];exact znu _ (by simp;omega)
   obtain⟨bk,off,rfl,hcell⟩:= hs.byte_ (j:=2) (by omega)
   obtain⟨b,hb⟩:∃ b,b=(l[2]'(by omega)).toNat:=⟨_,rfl⟩
   have hg2:(l.getD 2 0).toNat=b:=by rw[hb,List.getD_eq_getElem?_getD,List.getElem?_eq_getElem (by omega)];rfl
   have lb:b≤255:=by rw[hb];have:=(l[2]'(by omega)).toNat_lt;omega
   rw[← hb] at hcell
   have hone:=oneS.eq_1 l
   rw[if_neg (by omega),← hx0,← hm,hg2,← hn] at hone
   have hcut1:=fun W=>zch (some ⟨bk,off,none⟩) n c 5 5 .i64 rfl h5' hc W
   have s5:Sl w (cutA (some ⟨bk,off,none⟩) c 5 1) ((l.drop 5).map bv):= by rw[List.map_drop];exact hs.cut1 (by simp;omega)
   have hcutl:(l.drop 5).length=n - 5:=by simp;omega
   clear G1 G2 hx0 hm hb hg2
   have HN:=zak hn
   have HCL:=zak hcutl
   clear hn hcutl
   have hzb:bk < w.heap.size:=zal hcell
   have hcell1:(w.alloc (.cells #[.int .i64 0,.int .i64 0,.slice none 0 0] 52)).cell? ⟨bk,off+2,none⟩=some (.int .u8 b):= (Below.cell (zbf (Below.refl _ _) _) hzb).trans hcell
   by_cases hbig:n - 5 < m
   · rw[if_pos hbig] at hone
     have HO:=zak hone
     clear hone
     have hbig':(n:Int) - 5 < m:=by omega
     go_enter Tryz.func82,Tryz.ntmps82
     go_wp2_with fail
     refine (HG1.out _ (hs.alloc _)).mono ?_
     rintro e w' ⟨rfl,rfl⟩
     go_wp2_with fail
     refine (HG2.out _ (hs.alloc _)).mono ?_
     rintro e w' ⟨rfl,rfl⟩
     go_wp2_with fail
     refine bodyPost_ret (v:= .tuple #[.agg #[.int .i64 0,.int .i64 0,.slice none 0 0],.slice none 0 0,.int .i64 2]) (by simp[results,Tryz.results82,go_sem]) rfl ⟨⟨0,0,[]⟩,[],2,_,_,_,_,_,rfl,HO.out,zcd.nil _ _,rfl,Nat.le_refl _,Nat.zero_le _,fun _ _=>Sl.nil _ _,?_,by omega⟩
     exact zbf (zbf (Below.refl _ _) _) _
   · rw[if_neg hbig] at hone
     have hsm:m≤n - 5:=by omega
     have hsm1:(m:Int)≤ (n:Int) - 5:=by omega
     have hsm2:m≤c - 5:=by omega
     by_cases ht:thereB x0 b=true
     · rw[if_neg (by rw[ht];simp)] at hone
       have hcut2:=fun W=>zch (cutA (some ⟨bk,off,none⟩) c 5 1) (n - 5) (c - 5) m m .i64 rfl hsm (by omega) W
       have HO:=zak hone
       clear hone
       go_enter Tryz.func82,Tryz.ntmps82
       go_wp2_with fail
       refine (HG1.out _ (hs.alloc _)).mono ?_
       rintro e w' ⟨rfl,rfl⟩
       go_wp2_with fail
       refine (HG2.out _ (hs.alloc _)).mono ?_
       rintro e w' ⟨rfl,rfl⟩
       go_wp2_with fail
       refine (znj _ _ _ _).mono ?_
       rintro e w1 ⟨rfl,hb1⟩
       have K0:=zbn w 52 52 #[.int .i64 0,.int .i64 0,.slice none 0 0] #[.int .i64 x0,.int .i64 b,.slice none 0 0]
       have k1:=K0.1.below hb1 (by simp;omega)
       have k2:=K0.2.below hb1 (by simp)
       have c10:=k1.cell 0 rfl
       have c11:=k1.cell 1 rfl
       have c12:=k1.cell 2 rfl
       have f10:=k1.frozen 0
       have f11:=k1.frozen 1
       have f12:=k1.frozen 2
       have c20:=k2.cell 0 rfl
       have c21:=k2.cell 1 rfl
       have c22:=k2.cell 2 rfl
       have f20:=k2.frozen 0
       have f21:=k2.frozen 1
       have f22:=k2.frozen 2
       go_wp2_with fail
       have i1:(0:Int)≤ (m:Int):= by omega
       have HH:=zak (show m=((l.drop 5).take m).length by have:=HCL.out;simp at this ⊢;omega)
       have s1':Sl (w1.setCell ⟨w.heap.size+1,2,none⟩ (Value.slice (cutA (some ⟨bk,off,none⟩) c 5 1) m (c - 5))) (cutA (some ⟨bk,off,none⟩) c 5 1) (((l.drop 5).take m).map bv):= by
        rw[List.map_take]
        exact (s5.below (zbp (zbd hb1 (zbf (zbf (Below.refl _ _) _) _)) (by simp) _)).take m
       have k1:=k1.far (p:=⟨w.heap.size+1,2,none⟩) (by simp) (Value.slice (cutA (some ⟨bk,off,none⟩) c 5 1) m (c - 5))
       have k2:=k2.set_ 2 (Value.slice (cutA (some ⟨bk,off,none⟩) c 5 1) m (c - 5))
       have hbW:Below w.heap.size w (w1.setCell ⟨w.heap.size+1,2,none⟩ (Value.slice (cutA (some ⟨bk,off,none⟩) c 5 1) m (c - 5))):= zbp (zbd hb1 (zbf (zbf (Below.refl _ _) _) _)) (by simp) _
       generalize w1.setCell ⟨w.heap.size+1,2,none⟩ (Value.slice (cutA (some ⟨bk,off,none⟩) c 5 1) m (c - 5))=W at *
       clear c10 c11 c12 f10 f11 f12 c20 c21 c22 f20 f21 f22 K0 hcell1
       have c20:=k2.cell 0 rfl
       have c21:=k2.cell 1 rfl
       have c22:=k2.cell 2 rfl
       have z1:=k1.lt
       have z2:=k2.lt
       have hB0:=zbw (n:=3) k1 rfl
       go_region_held3 (fun w'=>HasBlk w' (w.heap.size) 3∧w'.cell? ⟨w.heap.size,0,none⟩=some (cellAt w' (w.heap.size) 0)∧ w'.cell? ⟨w.heap.size,1,none⟩=some (cellAt w' (w.heap.size) 1)∧ w'.cell? ⟨w.heap.size,2,none⟩=some (cellAt w' (w.heap.size) 2)∧ w'.frozen? ⟨w.heap.size,0,none⟩=false∧w'.frozen? ⟨w.heap.size,1,none⟩=false∧w'.frozen? ⟨w.heap.size,2,none⟩=false∧(∀ p:Addr,p.block < (W).heap.size→p.block≠w.heap.size→w'.cell? p=(W).cell? p)∧ World.grownBy (W) w' (some (w.heap.size))) (((try go_split_ands);refine sr3 ?_ ?_;(first | (refine zbx ?_;assumption) | (apply zby<;>assumption) | (refine zbz ?_ _;assumption) | (refine zb1 ?_ _ _ _ _ _ _;assumption) | (refine zb0 ?_ _ _;assumption));(first | exact zb2 _ _ | (apply zb3<;>assumption) | (refine zb4 ?_ _;assumption) | (refine zb6 ?_ _ _ _ _ _ _;assumption) | (refine zb5 ?_ _ _;assumption)))) (first
        | (go_at_call 97;(with_reducible refine (znn _ _ _ _ _ _ _ HH.out (by omega) s1'.drew).mono ?_);rintro e w2 ⟨A2,c2,rfl,hO2,hb2⟩;dsimp only))
       have k3:=k1.drew.below hb2 z1
       have k4:=((k3.set_ 0 (.int .i64 x0)).set_ 1 (.int .i64 b)).set_ 2 (.slice A2 m c2)
       have d0:=k4.cell 0 rfl
       have d1:=k4.cell 1 rfl
       have d2:=k4.cell 2 rfl
       generalize hQ:(if c - 5=m then cutA (some (⟨bk,off,none⟩:Addr)) c 5 1 else Option.map (fun x=>x.add m) (cutA (some (⟨bk,off,none⟩:Addr)) c 5 1))=A9
       have HQ:=zak hQ
       clear hQ
       go_wp2_with fail
       have hbf:Below w.heap.size w w2:=zbd hb2 ⟨hbW.os,hbW.tape,hbW.output,hbW.size,hbW.block⟩
       refine bodyPost_ret (v:= .tuple #[.agg #[.int .i64 x0,.int .i64 b,.slice A2 m c2],.slice A9 (n - 5 - m) (c - 5 - m),.int .i64 0]) (by simp[results,Tryz.results82,go_sem,d0,d1,d2]) rfl ⟨⟨x0,b,(l.drop 5).take m⟩,(l.drop 5).drop m,0,A2,c2,A9,n - 5 - m,c - 5 - m,?_,HO.out,?_,?_,by omega,by omega,?_,?_,?_⟩
       · rw[← HH.out]
       · rw[← HH.out]
         exact ((((hO2.mono (B':=w.heap.size+1) (show w.heap.size+1≤W.heap.size from z1)).set_ (by simp) _).set_ (by simp) _).set_ (by simp) _).mono (by omega)
       · have:=HCL.out
         simp at this ⊢
         omega
       · intro W' hW'
         have s5:Sl W' (cutA (some ⟨bk,off,none⟩) c 5 1) ((l.drop 5).map bv):= by rw[List.map_drop];exact hW'.cut1 (by have:=HN.out;simp;omega)
         have hsr:=s5.cut1 (k:=m) (c:=c - 5) (by have:=HN.out;simp;omega)
         rw[← HQ.out,List.map_drop]
         simpa [cutA] using hsr
       · exact zbp (zbp (zbp hbf (by simp) _) (by simp) _) (by simp) _
       · intro _
         have:thereB x0 b=true:=ht
         simp[thereB] at this
         have h1:=HH.out
         simp only[]
         rw[← h1]
         refine⟨by omega,by omega,by omega,by omega,by omega⟩
     · have ht':thereB x0 b=false:=by simpa using ht
       rw[if_pos ht'] at hone
       have HO:=zak hone
       clear hone
       go_enter Tryz.func82,Tryz.ntmps82
       go_wp2_with fail
       refine (HG1.out _ (hs.alloc _)).mono ?_
       rintro e w' ⟨rfl,rfl⟩
       go_wp2_with fail
       refine (HG2.out _ (hs.alloc _)).mono ?_
       rintro e w' ⟨rfl,rfl⟩
       go_wp2_with fail
       refine (znj _ _ _ _).mono ?_
       rintro e w1 ⟨rfl,hb1⟩
       have K0:=zbn w 52 52 #[.int .i64 0,.int .i64 0,.slice none 0 0] #[.int .i64 x0,.int .i64 b,.slice none 0 0]
       have k1:=K0.1.below hb1 (by simp;omega)
       have c10:=k1.cell 0 rfl
       have c11:=k1.cell 1 rfl
       have c12:=k1.cell 2 rfl
       have f10:=k1.frozen 0
       have f11:=k1.frozen 1
       have f12:=k1.frozen 2
       go_wp2_with fail
       have k4:=((k1.set_ 0 (.int .i64 0)).set_ 1 (.int .i64 0)).set_ 2 (.slice none 0 0)
       have d0:=k4.cell 0 rfl
       have d1:=k4.cell 1 rfl
       have d2:=k4.cell 2 rfl
       refine bodyPost_ret (v:= .tuple #[.agg #[.int .i64 0,.int .i64 0,.slice none 0 0],.slice none 0 0,.int .i64 9]) (by simp[results,Tryz.results82,go_sem,d0,d1,d2]) rfl ⟨⟨0,0,[]⟩,[],9,_,_,_,_,_,rfl,HO.out,zcd.nil _ _,rfl,Nat.le_refl _,Nat.zero_le _,fun _ _=>Sl.nil _ _,?_,by omega⟩
       exact zbp (zbp (zbp (zbd hb1 (zbf (zbf (Below.refl _ _) _) _)) (by simp) _) (by simp) _) (by simp) _
end
end
section
section
open Go.RowKit
set_option maxRecDepth 20000
set_option maxHeartbeats 1000000
def groupZ (ix:Int):Int:=
 if ix / 4096=1 then 2 else if 2≤ix / 4096∧ix / 4096≤5 then 4 else if 6≤ix / 4096∧ix / 4096≤9 then 3 else 1
def inB (ix g:Int):Bool:=decide (g=1∨(2≤g∧g≤4∧groupZ ix=g))
theorem znw (i s:Int) (a2 a3 a4 a5 a6 a7 a8 a9 a10:Value) (w:World) :
 Calls Tryz.prog 135 #[.agg #[.int .i64 i,.int .i64 s,a2,a3,a4,a5,a6,a7,a8,a9,a10]] w
  fun e w'=>e= .returned (.int .i64 (groupZ i))∧ Below w.heap.size w w':=by
 go_enter Tryz.func135,Tryz.ntmps135
 go_wp2
 all_goals
  go_ret
  refine⟨za0 ?_,zbf (Below.refl _ _) _⟩
  simp only[beq_iff_eq,beq_eq_false_iff_ne,ne_eq] at *
  unfold groupZ
  show (_:Int)=_
  (repeat' split)<;> first | rfl | omega
theorem znx (i s g:Int) (a2 a3 a4 a5 a6 a7 a8 a9 a10:Value) (w:World) :
 Calls Tryz.prog 95 #[.agg #[.int .i64 i,.int .i64 s,a2,a3,a4,a5,a6,a7,a8,a9,a10],.int .i64 g] w
  fun e w'=>e= .returned (.bool (inB i g))∧ Below w.heap.size w w':=by
 by_cases h1:g=1
 · subst h1
   go_enter Tryz.func95,Tryz.ntmps95
   go_wp2_with fail
   go_ret
   exact⟨za1 (by simp[inB]),zbf (Below.refl _ _) _⟩
 · have h1':(g == 1)=false:=by simpa using h1
   by_cases h2:2≤g∧g≤4
   · obtain⟨h2,h3⟩:= h2
     have HF:=zak (show (groupZ i == g)=inB i g by rw[Bool.eq_iff_iff];simp[inB];omega)
     clear h1
     go_enter Tryz.func95,Tryz.ntmps95
     go_wp2_with (go_at_call 135;(with_reducible refine (znw _ _ _ _ _ _ _ _ _ _ _ _).mono ?_);rintro e w1 ⟨rfl,hb1⟩)
     go_ret
     exact⟨za1 HF.out,zbd hb1 (zbf (Below.refl _ _) _)⟩
   · have HF:=zak (show false=inB i g by simp[inB];omega)
     have h4:g≤1∨4 < g:=by omega
     clear h1 h2
     rcases h4 with h4 | h4
     all_goals
      go_enter Tryz.func95,Tryz.ntmps95
      go_wp2_with fail
      go_ret
      exact⟨za1 HF.out,zbf (Below.refl _ _) _⟩
def dropL (L:List SV) (g:Int):List SV:=L.filter fun v=>!inB v.ix g
theorem zny (A:Option Addr) (n c:Nat) (L:List SV) (g:Int) (w:World) (hn:n=L.length) (hc:n≤c) (hl:n≤35184372) (hL:SlV w A L) (hf:fitsV L) :
 Calls Tryz.prog 51 #[.slice A n c,.int .i64 g] w fun e w'=> ∃ A' n' c' ds,e= .returned (.slice A' n' c')∧ znh w' w.heap.size A' n' c' (dropL L g) ds∧Below w.heap.size w w':=by
 have HN:=zak hn
 clear hn
 go_enter Tryz.func51,Tryz.ntmps51
 go_wp2_with fail
 go_loopw [5,10] (fun v5 i wr=> ∃ k ds A' m c',k≤n∧i= .int .i64 (k:Nat)∧ v5= .slice A' m c'∧znh wr w.heap.size A' m c' (dropL (L.take k) g) ds∧m≤k∧Below w.heap.size w wr) (fun _ i _=>n - (intOf i).toNat)
 case atStart=>exact⟨0,[],_,_,_,by omega,rfl,rfl,znh.nil _ _,by omega,Below.refl _ _⟩
 case round=>
  obtain⟨k,ds,A',m,c',hk,rfl,rfl,hO,hmk,hbr⟩:= hrel
  by_cases hlt:k < n
  · obtain⟨v,hv⟩:∃ v,L[k]? =some v:=⟨L[k]'(by have:=HN.out;omega),List.getElem?_eq_getElem _⟩
    obtain⟨b,off,Aj,cj,rfl,h0,h1,h2,h4,h5⟩:= (hL.below hbr) k v hv
    have hfd:=hf _ (List.mem_of_getElem? hv)
    have htk:=zak (show dropL (L.take (k+1)) g=dropL (L.take k) g ++ (if inB v.ix g then [] else [v]) by
     obtain⟨hkl,rfl⟩:= List.getElem?_eq_some_iff.1 hv
     rw[List.take_succ_eq_append_getElem hkl,dropL,List.filter_append]
     cases hi:inB L[k].ix g<;>simp[dropL,hi])
    clear hv
    have k1:=zbm wr 52 #[.int .i64 v.ix,.int .i64 v.sub,.slice Aj v.data.length cj]
    by_cases hi:inB v.ix g=true
    · go_wp2_with fail
      refine (znl _ _ _ _).mono ?_
      rintro e w1 ⟨rfl,hb1⟩
      go_wp2_with fail
      refine (znx _ _ _ _ _ _ _ _ _ _ _ _ _).mono ?_
      rintro e w2 ⟨rfl,hb2⟩
      have hb12:=zbd hb2 (zbd hb1 (zbf (Below.refl _ _) _))
      go_wp2_with fail
      go_roundw
      case rel=>exact⟨k+1,ds,_,_,_,by omega,by go_num,rfl,by rw[htk.out,hi];simpa using hO.below hb12,by omega,zbd hb12 hbr⟩
      case measure=>simp[intOf];omega
    · have hi:inB v.ix g=false:=by simpa using hi
      go_wp2_with fail
      refine (znl _ _ _ _).mono ?_
      rintro e w1 ⟨rfl,hb1⟩
      go_wp2_with fail
      refine (znx _ _ _ _ _ _ _ _ _ _ _ _ _).mono ?_
      rintro e w2 ⟨rfl,hb2⟩
      have k2:=(k1.below hb1 k1.lt).below hb2 (k1.below hb1 k1.lt).lt
      have d0:=k2.cell 0 rfl
      have d1:=k2.cell 1 rfl
      have d2:=k2.cell 2 rfl
      have hb12:=zbd hb2 (zbd hb1 (zbf (Below.refl _ _) _))
      go_wp2_with fail
      refine (znn _ _ _ _ _ v.data _ rfl hfd (h5.below hb12)).mono ?_
      rintro e w3 ⟨A3,c3,rfl,hO3,hb3⟩
      have hb13:=zbd hb3 hb12
      have hbr3:=zbd hb13 hbr
      have hpair:=zak (show ∀ d' ∈ ds,∀ g,d'.1=some (⟨g,0,none⟩:Addr)→ A3≠some ⟨g,0,none⟩ from by
       intro d' hd' g hg hA1
       obtain⟨j,hj,rfl⟩:= List.getElem_of_mem hd'
       obtain⟨u,hu⟩:∃ u,(dropL (L.take k) _)[j]? =some u:=⟨(dropL (L.take k) _)[j]'(by rw[← hO.hd];exact hj),List.getElem?_eq_getElem _⟩
       have hdat:=hO.data j u _ hu (List.getElem?_eq_getElem hj)
       have hs:=hb12.size
       rcases hdat.own.shape with ⟨h1,_⟩ | ⟨g1,h1,_,h3⟩
       · rw[h1] at hg;cases hg
       · rw[h1] at hg
         injection hg with hg
         injection hg with hg
         subst hg
         rcases hO3.own.shape with ⟨h4,_⟩ | ⟨g2,h4,h5,_⟩
         · rw[h4] at hA1;cases hA1
         · rw[h4] at hA1
           injection hA1 with hA1
           injection hA1 with hA1
           omega)
      go_wp2_with (at_builtin;go_must (refine zni _ rfl (.tmp 19) (.tmp 22) rfl w.heap.size _ _ _ _ _ rfl ((hO.below hb13).below bl) v (A3,c3) _ rfl (by exact (Blk.new _ _ _).sl) ((hO3.mono (B':=w.heap.size) (by have:=hbr.size;have:=hb12.size;omega)).below bl) hpair.out (by omega) (by have:=hbr3.size;simp;omega) (m+1) rfl ?_);intro A4 c4 w4 hO4 hb4)
      go_roundw
      case rel=>exact⟨k+1,_,_,_,_,by omega,by go_num,rfl,by rw[htk.out,hi];simpa using hO4,by omega,(zbf hbr3 _).trans hb4⟩
      case measure=>simp[intOf];omega
  · have hkn:k=n:=by omega
    subst hkn
    go_wp2_with fail
    go_ret
    refine⟨_,_,_,ds,rfl,?_,hbr⟩
    have e1:L.take k=L:=List.take_of_length_le (by have:=HN.out;omega)
    rw[e1] at hO
    exact hO
end
section
open Go.RowKit
set_option maxRecDepth 20000
set_option maxHeartbeats 1000000
def lastV (L:List SV):SV:=L.getD (L.length - 1) ⟨0,0,[]⟩
def parseF:Nat→List SV→List UInt8→List SV×Int
 | 0,_,_=>([],0)
 | f+1,L,l=>if l= [] then (L,0) else
    if (oneS l).2.2≠0 then ([],(oneS l).2.2) else
    if L≠ []∧ aheadB (lastV L).ix (lastV L).sub (oneS l).1.ix (oneS l).1.sub=false then ([],16) else parseF f (L ++ [(oneS l).1]) (oneS l).2.1
def parseS (l:List UInt8):List SV×Int:=if 960 < l.length then ([],3) else parseF (l.length+1) [] l
theorem znz (f:Nat) (L:List SV):parseF (f+1) L []=(L,0):= by simp[parseF]
theorem zn0 (f:Nat) (L:List SV) (l:List UInt8) (v:SV) (rest:List UInt8) (er:Int) (hl:l≠ []) (h:oneS l=(v,rest,er)) (he:er≠0):parseF (f+1) L l=([],er):= by
 rw[parseF,if_neg hl,h,if_pos he]
theorem zn1 (f:Nat) (L:List SV) (l:List UInt8) (v:SV) (rest:List UInt8) (hl:l≠ []) (h:oneS l=(v,rest,0)) (hL:L≠ []) (ha:aheadB (lastV L).ix (lastV L).sub v.ix v.sub=false):parseF (f+1) L l=([],16):= by
 rw[parseF,if_neg hl,h,if_neg (by simp),if_pos ⟨hL,ha⟩]
theorem zn2 (f:Nat) (L:List SV) (l:List UInt8) (v:SV) (rest:List UInt8) (hl:l≠ []) (h:oneS l=(v,rest,0)) (hL:L= []∨ aheadB (lastV L).ix (lastV L).sub v.ix v.sub=true):parseF (f+1) L l=parseF f (L ++ [v]) rest:=by
 rw[parseF,if_neg hl,h,if_neg (by simp),if_neg]
 rintro⟨h1,h2⟩
 rcases hL with h3 | h3
 · exact h1 h3
 · rw[h3] at h2;cases h2
def lenOf:Value→Nat | .slice _ n _=>n | _=>0
theorem zn3 (A:Option Addr) (n c:Nat) (l:List UInt8) (w:World) (hn:n=l.length) (hc:n≤c) (hs:Sl w A (l.map bv)) :
 Calls Tryz.prog 43 #[.slice A n c] w fun e w'=> ∃ A' n' c' L ds er,e= .returned (.tuple #[.slice A' n' c',.int .i64 er])∧ znh w' w.heap.size A' n' c' L ds∧parseS l=(L,er)∧ Below w.heap.size w w':=by
 by_cases hbig:960 < n
 · have HP:=zak (show parseS l=([],3) by rw[parseS,if_pos (by omega)])
   clear hn
   go_enter Tryz.func43,Tryz.ntmps43
   go_wp2_with fail
   go_ret2
   exact⟨_,_,_,_,[],_,rfl,znh.nil _ _,HP.out,Below.refl _ _⟩
 · have HP:=zak (show parseS l=parseF (l.length+1) [] l by rw[parseS,if_neg (by omega)])
   have HN:=zak hn
   clear hn
   have hn960:n≤960:=by omega
   clear hbig
   go_enter Tryz.func43,Tryz.ntmps43
   go_wp2_with fail
   go_loopw [0,4] (fun v0 v4 wr=> ∃ bA bn bc r L ds A' m c' f,v0= .slice bA bn bc∧Hid (bn=r.length)∧ bn≤bc∧Sl w bA (r.map bv)∧ v4= .slice A' m c'∧znh wr w.heap.size A' m c' L ds∧Hid (parseS l=parseF (f+1) L r)∧ bn≤f∧m+bn≤960∧Below w.heap.size w wr)
    (fun v0 _ _=>lenOf v0)
   case atStart=>exact⟨_,_,_,l,[],[],_,_,_,l.length,rfl,HN,hc,hs,rfl,znh.nil _ _,HP,by have:=HN.out;omega,by omega,Below.refl _ _⟩
   case round=>
    obtain⟨bA,bn,bc,r,L,ds,A',m,c',f,rfl,HR,hbc,hr,rfl,hO,HF,hf,hmb,hbr⟩:= hrel
    clear hs HN HP hc hn960
    by_cases h0:0 < bn
    · have hrne:r≠ []:= by intro h;have:=HR.out;rw[h] at this;simp at this;omega
      have HRN:=zak hrne
      clear hrne
      go_wp2_with fail
      refine (znv bA bn bc r wr HR.out hbc (by omega) (hr.below hbr)).mono ?_
      rintro e w1 ⟨v,rest,er,A1,c1,A2,n2,c2,rfl,ho,hO1,hn2,hc2',hcc,hsub,hb1,hok⟩
      have HO:=zak ho
      have HN2:=zak hn2
      clear ho hn2
      have hbr1:=zbd hb1 hbr
      by_cases her:er=0
      · subst her
        obtain⟨q1,q2,q3,q4,q5⟩:= hok rfl
        have hVO:=hO.below hb1
        have hmle:m≤960:=by omega
        have hAll:=hO1.own.shape
        have hpair:∀ d' ∈ ds,∀ g,d'.1=some (⟨g,0,none⟩:Addr)→ A1≠some ⟨g,0,none⟩:= by
         intro d' hd' g hg hA1
         obtain⟨j,hj,rfl⟩:= List.getElem_of_mem hd'
         obtain⟨u,hu⟩:∃ u,L[j]? =some u:=⟨L[j]'(by rw[← hO.hd];exact hj),List.getElem?_eq_getElem _⟩
         have hdat:=hO.data j u _ hu (List.getElem?_eq_getElem hj)
         rcases hdat.own.shape with ⟨h1,_⟩ | ⟨g1,h1,_,h3⟩
         · rw[h1] at hg;cases hg
         · rw[h1] at hg
           injection hg with hg
           injection hg with hg
           subst hg
           rcases hAll with ⟨h4,_⟩ | ⟨g2,h4,h5,_⟩
           · rw[h4] at hA1;cases hA1
           · rw[h4] at hA1
             injection hA1 with hA1
             injection hA1 with hA1
             omega
        have HPR:=zak hpair
        clear hpair hAll hok
        have step:∀ (W:World),Below w1.heap.size w1 W→znh W w.heap.size A' m c' L ds∧zcd W w.heap.size A1 v.data.length c1 v.data:=
         fun W hW=>⟨hVO.below hW,(hO1.below hW).mono (by have:=hbr.size;omega)⟩
        have HST:=zak step
        clear step
        have hm0:m=0∨1≤m:=by omega
        rcases hm0 with hm0 | hm0
        · have hd:decide ((0:Int) < (m:Int))=false:=by simp;omega
          have hd':decide (0 < m)=false:=by simp;omega
          have hL0:=zak (show L= [] from List.eq_nil_of_length_eq_zero (by have:=hO.hn;omega))
          clear hm0
          go_wp2_with fail
          go_quiet (fail)
          clear hd hd'
          go_wp2_with (at_builtin;go_must (refine zni _ rfl (.tmp 41) (.tmp 43) rfl w.heap.size _ _ _ _ _ rfl (HST.out _ bl).1 v (A1,c1) _ rfl (by first | exact (zbn _ _ _ _ _).2.sl | exact (Blk.new _ _ _).sl) (HST.out _ bl).2 HPR.out (by omega) (by have:=hbr1.size;simp;omega) (m+1) rfl ?_);intro A4 c4 w4 hO4 hb4)
          go_roundw
          case measure=>simp[lenOf];omega
          case rel=>
           obtain⟨f,rfl⟩:∃ f',f=f'+1:=⟨f - 1,by omega⟩
           exact⟨_,_,_,rest,_,_,_,_,_,f,rfl,HN2,hc2',hsub _ hr,rfl,hO4,zak (by rw[HF.out,zn2 _ _ _ _ _ HRN.out HO.out (.inl hL0.out)]),by omega,by omega,(zbd bl hbr1).trans hb4⟩
        · obtain⟨u,hu⟩:∃ u,L[m - 1]? =some u:=⟨L[m - 1]'(by have:=hO.hn;omega),List.getElem?_eq_getElem _⟩
          have hlast:=zak (show lastV L=u by unfold lastV;rw[← hO.hn,List.getD_eq_getElem?_getD,hu];rfl)
          have hLne:=zak (show L≠ [] by intro h;have:=hO.hn;rw[h] at this;simp at this;omega)
          by_cases ha:aheadB u.ix u.sub v.ix v.sub=true
          · obtain⟨b,off,Ap,cp,hA,g0,g1,g2,g4,g5⟩:= (HST.out (w1.alloc (.cells #[.int .i64 v.ix,.int .i64 v.sub,.slice A1 v.data.length c1] 52)) bl).1.slV (m - 1) u hu
            subst hA
            have k1:=zbm w1 52 #[.int .i64 v.ix,.int .i64 v.sub,.slice A1 v.data.length c1]
            have c0:=k1.cell 0 rfl
            have c1':=k1.cell 1 rfl
            have c2'':=k1.cell 2 rfl
            have z1:=zal g0
            have z2:=k1.lt
            simp only[] at z1 z2
            have z3:b≤w1.heap.size:=by simp at z1;omega
            have z4:b < w1.heap.size+1:=by omega
            have HU:=zak hu
            clear hu
            obtain⟨q1,q2,q3,q4,q5,q6,q7,q8,q9,q10,q11⟩:= zbq hm0 (Nat.le_refl m) (by omega)
            go_wp2_with fail
            go_region_held3 (fun w'=>(∀ qA:Addr,qA.block < (w1.alloc (.cells #[.int .i64 v.ix,.int .i64 v.sub,.slice A1 v.data.length c1] 52)).heap.size→w'.cell? qA=(w1.alloc (.cells #[.int .i64 v.ix,.int .i64 v.sub,.slice A1 v.data.length c1] 52)).cell? qA)∧ Below (w1.alloc (.cells #[.int .i64 v.ix,.int .i64 v.sub,.slice A1 v.data.length c1] 52)).heap.size (w1.alloc (.cells #[.int .i64 v.ix,.int .i64 v.sub,.slice A1 v.data.length c1] 52)) w') (((try go_split_ands);refine zbc ?_;all_goals exact bl)) (first
             | (go_at_call 83;(with_reducible refine (znm _ _ _ _ _ _ _).mono ?_);rintro e w2 ⟨rfl,hw2⟩;dsimp only))
            clear q1 q2 q3 q4 q5 q6 q7 q8 q9 q10 q11
            have hbS:=(by assumption:_∧Below _ _ w2).2
            have hb12:Below w1.heap.size w1 w2:=zbd hbS (zbf (Below.refl _ _) _)
            have k2:=k1.below hbS z2
            have d0:=k2.cell 0 rfl
            have d1:=k2.cell 1 rfl
            have d2:=k2.cell 2 rfl
            have hz12:=hb12.size
            have hbr2:=zbd hb12 hbr1
            go_wp2_with (at_builtin;go_must (refine zni _ rfl (.tmp 41) (.tmp 43) rfl w.heap.size _ _ _ _ _ rfl (HST.out _ (by exact zbf hb12 _)).1 v (A1,c1) _ rfl (by exact (Blk.new _ _ _).sl) (HST.out _ (by exact zbf hb12 _)).2 HPR.out (by omega) (by have:=hbr2.size;simp;omega) (m+1) rfl ?_);intro A4 c4 w4 hO4 hb4)
            go_roundw
            case measure=>simp[lenOf];omega
            case rel=>
             obtain⟨f,rfl⟩:∃ f',f=f'+1:=⟨f - 1,by omega⟩
             exact⟨_,_,_,rest,_,_,_,_,_,f,rfl,HN2,hc2',hsub _ hr,rfl,hO4,zak (by rw[HF.out,zn2 _ _ _ _ _ HRN.out HO.out (.inr (by rw[hlast.out];exact ha))]),by omega,by omega,(zbf hbr2 _).trans hb4⟩
          · have ha:aheadB u.ix u.sub v.ix v.sub=false:=by simpa using ha
            obtain⟨b,off,Ap,cp,hA,g0,g1,g2,g4,g5⟩:= (HST.out (w1.alloc (.cells #[.int .i64 v.ix,.int .i64 v.sub,.slice A1 v.data.length c1] 52)) bl).1.slV (m - 1) u hu
            subst hA
            have k1:=zbm w1 52 #[.int .i64 v.ix,.int .i64 v.sub,.slice A1 v.data.length c1]
            have c0:=k1.cell 0 rfl
            have c1':=k1.cell 1 rfl
            have c2'':=k1.cell 2 rfl
            have z1:=zal g0
            have z2:=k1.lt
            simp only[] at z1 z2
            have z3:b≤w1.heap.size:=by simp at z1;omega
            have z4:b < w1.heap.size+1:=by omega
            have HU:=zak hu
            clear hu
            obtain⟨q1,q2,q3,q4,q5,q6,q7,q8,q9,q10,q11⟩:= zbq hm0 (Nat.le_refl m) (by omega)
            go_wp2_with fail
            go_region_held3 (fun w'=>(∀ qA:Addr,qA.block < (w1.alloc (.cells #[.int .i64 v.ix,.int .i64 v.sub,.slice A1 v.data.length c1] 52)).heap.size→w'.cell? qA=(w1.alloc (.cells #[.int .i64 v.ix,.int .i64 v.sub,.slice A1 v.data.length c1] 52)).cell? qA)∧ Below (w1.alloc (.cells #[.int .i64 v.ix,.int .i64 v.sub,.slice A1 v.data.length c1] 52)).heap.size (w1.alloc (.cells #[.int .i64 v.ix,.int .i64 v.sub,.slice A1 v.data.length c1] 52)) w') (((try go_split_ands);refine zbc ?_;all_goals exact bl)) (first
             | (go_at_call 83;(with_reducible refine (znm _ _ _ _ _ _ _).mono ?_);rintro e w2 ⟨rfl,hw2⟩;dsimp only))
            clear q1 q2 q3 q4 q5 q6 q7 q8 q9 q10 q11
            have hbS:=(by assumption:_∧Below _ _ w2).2
            have hb12:Below w1.heap.size w1 w2:=zbd hbS (zbf (Below.refl _ _) _)
            go_wp2_with fail
            go_ret2
            exact⟨_,_,_,_,[],_,rfl,znh.nil _ _,by rw[HF.out,zn1 _ _ _ _ _ HRN.out HO.out hLne.out (by rw[hlast.out];exact ha)],zbd hb12 hbr1⟩
      · have her':(er == 0)=false:=by simpa using her
        have her2:(er != 0)=true:=by simpa using her
        clear hok
        go_wp2_with fail
        go_quiet (fail)
        go_wp2_with fail
        go_ret2
        exact⟨_,_,_,_,[],_,rfl,znh.nil _ _,by rw[HF.out,zn0 _ _ _ _ _ _ HRN.out HO.out her],zb8 (hbr1.alloc hbr1.size _) _⟩
    · go_wp2_with fail
      go_ret2
      have hr0:r= []:= List.eq_nil_of_length_eq_zero (by have:=HR.out;omega)
      subst hr0
      exact⟨_,_,_,_,_,_,rfl,hO,by rw[HF.out,znz],hbr⟩
end
section
open Go.RowKit
set_option maxRecDepth 20000
set_option maxHeartbeats 1000000
theorem zn4 (L:List SV) (k:Nat) (h:chkV L k≠0) (k':Nat) (h':chkV L k'≠0) (a:∀ j,j < k→chkV L j=0) (a':∀ j,j < k'→chkV L j=0):k=k':=by
 rcases Nat.lt_trichotomy k k' with hlt | he | hlt
 · exact absurd (a' k hlt) h
 · exact he
 · exact absurd (a k' hlt) h'
theorem zn5 {L:List SV} {b b':List UInt8} {e e':Int} (h:BuildR L b e) (h':BuildR L b' e'):b=b'∧e=e':=by
 rcases h with ⟨h1,h2,k,hk,hck,ha⟩ | ⟨ha,h⟩
 · rcases h' with ⟨h1',h2',k',hk',hck',ha'⟩ | ⟨ha',_⟩
   · have:k=k':=zn4 L k (by rw[hck];exact h1) k' (by rw[hck'];exact h1') ha ha'
     subst this
     exact⟨h2.trans h2'.symm,hck.symm.trans hck'⟩
   · exact absurd (ha' k hk) (by rw[hck];exact h1)
 · rcases h' with ⟨h1',h2',k',hk',hck',ha'⟩ | ⟨ha',h'⟩
   · exact absurd (ha k' hk') (by rw[hck'];exact h1')
   · rcases h with ⟨p1,p2,p3⟩ | ⟨p1,p2,p3⟩<;> rcases h' with ⟨q1,q2,q3⟩ | ⟨q1,q2,q3⟩
     · exact⟨p2.trans q2.symm,p3.trans q3.symm⟩
     · omega
     · omega
     · exact⟨p2.trans q2.symm,p3.trans q3.symm⟩
def kL:List SV:= [⟨4119,0,[20,0]⟩]
def kB:List UInt8:= [23,16,0,2,0,20,0]
end
end
end
end Go.Proofs.YtehabbnohoomjaaGreatDoor
