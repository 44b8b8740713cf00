/- None -/
import Derived.Test.YtehabbnohoomjaaGreatDoorP36
namespace Go.Proofs.YtehabbnohoomjaaGreatDoor
set_option linter.unusedVariables false
set_option linter.unusedSimpArgs false
set_option linter.unnecessarySimpa false
section
open Go.RowKit
set_option maxRecDepth 20000
set_option maxHeartbeats 4000000
theorem zvq (L:List SV) (v:SV):(insV L v).length≤L.length+1:=by
 induction L with
 | nil=>simp[insV]
 | cons x L ih=>
   rw[insV]
   split
   · simp;omega
   · split<;>simp
theorem zvr:∀ (X L:List SV),(X.foldl insV L).length≤L.length+X.length
 | [],L=>by simp
 | v :: X,L=>by have h1:=zvr X (insV L v);have h2:=zvq L v;simp;omega
theorem zvs {X L:List SV} {k:Nat} {v:SV} (h:X[k]? =some v):(X.take (k+1)).foldl insV L=insV ((X.take k).foldl insV L) v:=by
 obtain⟨hk,rfl⟩:= List.getElem?_eq_some_iff.1 h
 rw[List.take_succ_eq_append_getElem hk,List.foldl_append]
 rfl
def foJ (a b:List SV) (i:Nat):List SV:=if i=0 then [] else if i=1 then a.foldl insV [] else joinV a b
theorem zvt (a b:List SV) (i:Nat):(foJ a b i).length≤a.length+b.length:=by
 unfold foJ
 split
 · simp
 · split
   · have:=zvr a [];simp at this;omega
   · exact zuq a b
abbrev JoinR (a b:List SV) (w:World) (e:Ending) (w':World):Prop:= ∃ A' n' c' ds',e= .returned (.slice A' n' c')∧ znh w' w.heap.size A' n' c' (joinV a b) ds'∧Below w.heap.size w w'
theorem zvu (A1:Option Addr) (n1 c1:Nat) (X1:List SV) (A2:Option Addr) (n2 c2:Nat) (X2:List SV) (w:World) (hn1:n1=X1.length) (hX1:SlV w A1 X1) (hn2:n2=X2.length) (hX2:SlV w A2 X2) (h1:lightB X1=true) (h2:lightB X2=true) :
 Calls Tryz.prog 50 #[.slice A1 n1 c1,.slice A2 n2 c2] w (JoinR X1 X2 w):= by
 have f1:X1.length≤200∧ ∀ v ∈ X1,v.data.length≤2000:=of_decide_eq_true h1
 have f2:X2.length≤200∧ ∀ v ∈ X2,v.data.length≤2000:=of_decide_eq_true h2
 have q0:=zbm w 27 #[.slice A1 n1 c1,.slice A2 n2 c2]
 have hb0:=zbf (Below.refl w.heap.size w) (.cells #[.slice A1 n1 c1,.slice A2 n2 c2] 27)
 obtain⟨R,hR⟩:∃ R,R=JoinR X1 X2 w:=⟨_,rfl⟩
 rw[← hR]
 have HR:=zak hR
 obtain⟨Q,hQ⟩:∃ Q,Q=w.heap.size:=⟨_,rfl⟩
 obtain⟨W1,hW1⟩:∃ W,W=w.alloc (.cells #[.slice A1 n1 c1,.slice A2 n2 c2] 27):= ⟨_,rfl⟩
 have HW1:=zak hW1
 have HQ:=zak hQ
 rw[← hQ] at q0
 rw[← hW1] at q0 hb0
 have HQ0:=zak q0
 have HB0:=zak hb0
 have HS1:Hid (W1.heap.size=w.heap.size+1):= zak (by rw[hW1];show (w.heap.push _).size=_;simp)
 have HN1:=zak hn1
 have HN2:=zak hn2
 have HX1:=zak hX1
 have HX2:=zak hX2
 have HF1:=zak f1
 have HF2:=zak f2
 have hm1:n1≤200:=by omega
 have hm2:n2≤200:=by omega
 clear hR hQ hW1 q0 hb0 hn1 hn2 hX1 hX2 h1 h2 f1 f2
 go_enter Tryz.func50,Tryz.ntmps50
 go_wp2_with fail
 rw[← HW1.out,← HQ.out]
 go_loopw [5,7,9,14] (fun s5 _ _ t14 wr=> ∃ (i:Nat) (z:Int) (A:Option Addr) (n c:Nat) (ds:List (Option Addr×Nat)),i≤2∧z=(i:Nat)∧ t14= .int .i64 z∧s5= .slice A n c∧Hid (znh wr W1.heap.size A n c (foJ X1 X2 i) ds∧Below w.heap.size w wr∧Blk wr Q 27 #[.slice A1 n1 c1,.slice A2 n2 c2]∧ W1.heap.size≤wr.heap.size)) (fun _ _ _ t14 _=>2 - (intOf t14).toNat)
 case atStart=>exact⟨0,0,none,0,0,[],by omega,rfl,rfl,rfl,zak ⟨znh.nil _ _,HB0.out,HQ0.out,Nat.le_refl _⟩⟩
 case round=>
  obtain⟨i,z,A,n,c,ds,hi,hz,rfl,rfl,HK⟩:= hrel
  have qc0:=HK.out.2.2.1.cell 0 (u:= .slice A1 n1 c1) rfl
  have qc1:=HK.out.2.2.1.cell 1 (u:= .slice A2 n2 c2) rfl
  have hways:i=0∨i=1∨i=2:=by omega
  rcases hways with rfl | rfl | rfl
  · obtain rfl:z=0:=by omega
    clear hz hi
    go_wp2_with fail
    go_loopw [5,9,20] (fun s5 _ t20 wx=> ∃ (k:Nat) (A:Option Addr) (n c:Nat) (ds:List (Option Addr×Nat)),k≤n1∧t20= .int .i64 (k:Nat)∧ s5= .slice A n c∧Hid (znh wx W1.heap.size A n c ((X1.take k).foldl insV (foJ X1 X2 0)) ds∧Below w.heap.size w wx∧Blk wx Q 27 #[.slice A1 n1 c1,.slice A2 n2 c2]∧ W1.heap.size≤wx.heap.size)) (fun _ _ t20 _=>n1 - (intOf t20).toNat)
    case atStart=>exact⟨0,A,n,c,ds,by omega,rfl,rfl,zak HK.out⟩
    case round=>
     clear HK qc0 qc1
     obtain⟨k,A,n,c,ds,hk,rfl,rfl,HK⟩:= hrel
     by_cases hlt:k < n1
     · obtain⟨v,hv⟩:∃ v,X1[k]? =some v:=⟨X1[k]'(by have:=HN1.out;omega),List.getElem?_eq_getElem _⟩
       obtain⟨b,off,Aj,cj,rfl,e0,e1,e2,e4,e5⟩:= (HX1.out.below HK.out.2.1) k v hv
       obtain⟨vl,hvl⟩:∃ vl,vl=v.data.length:=⟨_,rfl⟩
       have hx5:∀ W,Below w.heap.size w W→Sl W Aj (v.data.map bv):= fun W hW=>by
        obtain⟨b',off',Aj',cj',h,_,_,h3,_,h5⟩:= HX1.out k v hv
        have c2':=(hW.cell (zal h3)).trans h3
        have c2'':=(HK.out.2.1.cell (zal h3)).trans h3
        simp only[Option.some.injEq,Addr.mk.injEq,and_true] at h
        obtain⟨rfl,rfl⟩:= h
        rw[e2] at c2''
        injection c2'' with c2''
        injection c2'' with c2'' _ _
        rw[c2'']
        exact h5.below hW
       have hvf:=HF1.out.2 v (List.mem_of_getElem? hv)
       have hn4:n≤1000:=by
        have h1:=HK.out.1.hn
        have h2:=zvr (X1.take k) (foJ X1 X2 0)
        have h3:=zvt X1 X2 0
        have h4:=HF1.out.1
        have h5:=HF2.out.1
        rw[List.length_take] at h2
        omega
       have HT:=zak (zvs (L:=foJ X1 X2 0) hv)
       have hba:=zbf (Below.refl wr.heap.size wr) (.cells #[.int .i64 v.ix,.int .i64 v.sub,.slice Aj v.data.length cj] 52)
       have HI:=zak (zvp W1.heap.size A n c _ ds v Aj cj _ (HK.out.1.below hba) (Nat.le_trans HK.out.2.2.2 hba.size) hn4 hvf (fun W hW=>hx5 W ((zbd hba HK.out.2.1).trans (zvc hW (by have:=HS1.out;omega)))))
       have HBA:=zak (And.intro (zbd hba HK.out.2.1) (And.intro (HK.out.2.2.1.below hba HK.out.2.2.1.lt) (Nat.le_trans HK.out.2.2.2 hba.size)))
       rw[← hvl] at e2 HI HBA
       clear hv hvl hx5 hvf hn4 hba e4 e5
       go_wp2_with fail
       refine HI.out.mono ?_
       rintro e w3 ⟨A3,n3,c3,ds3,rfl,hO3,hb3⟩
       go_wp2_with fail
       go_roundw
       case rel=>
        have hs:=HBA.out.2.2
        exact⟨k+1,A3,n3,c3,ds3,by omega,by go_num,rfl,zak ⟨by rw[HT.out];exact hO3,HBA.out.1.trans (zvc hb3 (by have:=HS1.out;omega)),(hb3.block Q (by rw[HQ.out];have:=HS1.out;omega)).trans HBA.out.2.1,Nat.le_trans hs hb3.size⟩⟩
       case measure=>simp[intOf];omega
     · have HKN:=zak (show k=n1 by omega)
       go_wp2_with fail
       go_roundw
       case rel=>
        refine⟨0+1,1,A,n,c,ds,by omega,by omega,by go_num,rfl,zak ⟨?_,HK.out.2⟩⟩
        have h:=HK.out.1
        rw[List.take_of_length_le (by rw[HKN.out,HN1.out];exact Nat.le_refl _)] at h
        exact h
       case measure=>simp[intOf]
  · obtain rfl:z=1:=by omega
    clear hz hi
    go_wp2_with fail
    go_loopw [5,9,20] (fun s5 _ t20 wx=> ∃ (k:Nat) (A:Option Addr) (n c:Nat) (ds:List (Option Addr×Nat)),k≤n2∧t20= .int .i64 (k:Nat)∧ s5= .slice A n c∧Hid (znh wx W1.heap.size A n c ((X2.take k).foldl insV (foJ X1 X2 1)) ds∧Below w.heap.size w wx∧Blk wx Q 27 #[.slice A1 n1 c1,.slice A2 n2 c2]∧ W1.heap.size≤wx.heap.size)) (fun _ _ t20 _=>n2 - (intOf t20).toNat)
    case atStart=>exact⟨0,A,n,c,ds,by omega,rfl,rfl,zak HK.out⟩
    case round=>
     clear HK qc0 qc1
     obtain⟨k,A,n,c,ds,hk,rfl,rfl,HK⟩:= hrel
     by_cases hlt:k < n2
     · obtain⟨v,hv⟩:∃ v,X2[k]? =some v:=⟨X2[k]'(by have:=HN2.out;omega),List.getElem?_eq_getElem _⟩
       obtain⟨b,off,Aj,cj,rfl,e0,e1,e2,e4,e5⟩:= (HX2.out.below HK.out.2.1) k v hv
       obtain⟨vl,hvl⟩:∃ vl,vl=v.data.length:=⟨_,rfl⟩
       have hx5:∀ W,Below w.heap.size w W→Sl W Aj (v.data.map bv):= fun W hW=>by
        obtain⟨b',off',Aj',cj',h,_,_,h3,_,h5⟩:= HX2.out k v hv
        have c2':=(hW.cell (zal h3)).trans h3
        have c2'':=(HK.out.2.1.cell (zal h3)).trans h3
        simp only[Option.some.injEq,Addr.mk.injEq,and_true] at h
        obtain⟨rfl,rfl⟩:= h
        rw[e2] at c2''
        injection c2'' with c2''
        injection c2'' with c2'' _ _
        rw[c2'']
        exact h5.below hW
       have hvf:=HF2.out.2 v (List.mem_of_getElem? hv)
       have hn4:n≤1000:=by
        have h1:=HK.out.1.hn
        have h2:=zvr (X2.take k) (foJ X1 X2 1)
        have h3:=zvt X1 X2 1
        have h4:=HF1.out.1
        have h5:=HF2.out.1
        rw[List.length_take] at h2
        omega
       have HT:=zak (zvs (L:=foJ X1 X2 1) hv)
       have hba:=zbf (Below.refl wr.heap.size wr) (.cells #[.int .i64 v.ix,.int .i64 v.sub,.slice Aj v.data.length cj] 52)
       have HI:=zak (zvp W1.heap.size A n c _ ds v Aj cj _ (HK.out.1.below hba) (Nat.le_trans HK.out.2.2.2 hba.size) hn4 hvf (fun W hW=>hx5 W ((zbd hba HK.out.2.1).trans (zvc hW (by have:=HS1.out;omega)))))
       have HBA:=zak (And.intro (zbd hba HK.out.2.1) (And.intro (HK.out.2.2.1.below hba HK.out.2.2.1.lt) (Nat.le_trans HK.out.2.2.2 hba.size)))
       rw[← hvl] at e2 HI HBA
       clear hv hvl hx5 hvf hn4 hba e4 e5
       go_wp2_with fail
       refine HI.out.mono ?_
       rintro e w3 ⟨A3,n3,c3,ds3,rfl,hO3,hb3⟩
       go_wp2_with fail
       go_roundw
       case rel=>
        have hs:=HBA.out.2.2
        exact⟨k+1,A3,n3,c3,ds3,by omega,by go_num,rfl,zak ⟨by rw[HT.out];exact hO3,HBA.out.1.trans (zvc hb3 (by have:=HS1.out;omega)),(hb3.block Q (by rw[HQ.out];have:=HS1.out;omega)).trans HBA.out.2.1,Nat.le_trans hs hb3.size⟩⟩
       case measure=>simp[intOf];omega
     · have HKN:=zak (show k=n2 by omega)
       go_wp2_with fail
       go_roundw
       case rel=>
        refine⟨1+1,2,A,n,c,ds,by omega,by omega,by go_num,rfl,zak ⟨?_,HK.out.2⟩⟩
        have h:=HK.out.1
        rw[List.take_of_length_le (by rw[HKN.out,HN2.out];exact Nat.le_refl _)] at h
        exact h
       case measure=>simp[intOf]
  · obtain rfl:z=2:=by omega
    clear hz hi
    go_wp2_with fail
    rw[HR.out]
    exact⟨A,n,c,ds,rfl,HK.out.1.mono (by have:=HS1.out;omega),HK.out.2.1⟩
end
section
section
open Go.RowKit
set_option maxRecDepth 100000
set_option maxHeartbeats 4000000
def chkS (L:List Ent) (v:SV):Int:=if hasL L v.ix v.sub=false∨(entK L (locK L v.ix v.sub)).st=false then 8 else if valC (entK L (locK L v.ix v.sub)) v.data≠0 then 4 else 0
def checkL (L:List Ent):List SV→Int
 | []=> 0
 | v :: X=>if chkS L v≠0 then chkS L v else checkL L X
theorem zvv {L:List Ent} {X:List SV} {k:Nat} {v:SV} (h:X[k]? =some v):checkL L (X.drop k)=if chkS L v≠0 then chkS L v else checkL L (X.drop (k+1)):= by
 rw[ztq h];rfl
section
variable {F:Nat→Prop} {p n cl cv:Nat} {Av:Option Addr} {L:List Ent} {V:List (List UInt8)} {ds es:List (Option Addr×Nat)} {gl:Nat}
theorem zvw (A:Option Addr) (m c:Nat) (X:List SV) (w:World) (hD:DB 102 w F p (some ⟨gl,0,none⟩) n cl Av cv L V ds es) (hs:SortedE L) (hn:n≤1000) (hm:m=X.length) (hmb:m≤1000) (hX:SlV w A X) (hf:fitsV X) :
 Calls Tryz.prog 44 #[.pointer (some ⟨p,0,none⟩),.slice A m c] w fun e w'=>e= .returned (.int .i64 (checkL L X))∧ Below w.heap.size w w':=by
 have HD:=zak hD
 have HN:=zak hD.ents.hn
 have HS:=zak hs
 have HM:=zak hm
 have HX:=zak hX
 have HF:=zak hf
 have H1:=zak hn
 clear hD hs hm hX hf hn
 go_enter Tryz.func44,Tryz.ntmps44
 go_wp2_with fail
 go_loopw [15] (fun i wr=> ∃ k,k≤m∧i= .int .i64 (k:Nat)∧ Hid (checkL L (X.drop k)=checkL L X)∧ Below w.heap.size w wr) (fun i _=>m - (intOf i).toNat)
 case atStart=>exact⟨0,by omega,rfl,zak rfl,Below.refl _ _⟩
 case round=>
  obtain⟨k,hk,rfl,HC,hbr⟩:= hrel
  by_cases hlt:k < m
  · obtain⟨v,hv⟩:∃ v,X[k]? =some v:=⟨X[k]'(by rw[← HM.out];exact hlt),List.getElem?_eq_getElem _⟩
    obtain⟨b,off,Aj,cj,rfl,c0,c1,c2,hcj,hsj⟩:= (HX.out.below hbr) k v hv
    have HV:Hid (checkL L X=if chkS L v≠0 then chkS L v else checkL L (X.drop (k+1))):= zak (by rw[← HC.out];exact zvv hv)
    have q:=zbm wr 52 #[.int .i64 v.ix,.int .i64 v.sub,.slice Aj v.data.length cj]
    have hb2:=zbf (Below.refl wr.heap.size wr) (.cells #[.int .i64 v.ix,.int .i64 v.sub,.slice Aj v.data.length cj] 52)
    have hbr2:=zbd hb2 hbr
    have HSJ:=zak (hsj.below hb2)
    have HCJ:=zak hcj
    have hvd:=HF.out v (List.mem_of_getElem? hv)
    have HVD:=zak hvd
    obtain⟨i1,i2,i3⟩:= zbr hlt
    clear hv hcj hsj hvd
    go_wp2_with fail
    refine (zqp v.ix v.sub _ (HD.out.below hbr2) HS.out H1.out).mono ?_
    rintro e w2 ⟨rfl,hb3⟩
    have hbr3:=zbd hb3 hbr2
    have q2:=q.below hb3 q.lt
    have HD3:=zak (HD.out.below hbr3)
    clear c0 c1 c2
    by_cases hf:0≤findL L v.ix v.sub
    · obtain⟨j,hj,hlj,hjl⟩:= zp3 hf
      obtain⟨E,hE⟩:∃ E,L[j]? =some E:=⟨L[j],List.getElem?_eq_getElem _⟩
      have hh:hasL L v.ix v.sub=true:=by simp[hasL,hf]
      have HCS:Hid (chkS L v=if E.st=false then 8 else if valC E v.data≠0 then 4 else 0):= zak (by unfold chkS;rw[hh,hlj,zpl hE];simp)
      rw[hh,hlj]
      have HE:=zak hE
      clear hf hj hlj hh hE
      go_wp2_with fail
      refine (ztb j E _ _ p gl n cl cv Av L V ds es HD3.out HE.out).mono ?_
      rintro e w3 ⟨A3,c3,rfl,hO3,hb4⟩
      have q3:=(q2.below hb4 q2.lt).alloc (.cells (entV E A3 E.df.length c3) 55)
      have q4:=zbm w3 55 (entV E A3 E.df.length c3)
      have hb5:=zbd (zbf (Below.refl w3.heap.size w3) (.cells (entV E A3 E.df.length c3) 55)) hb4
      have hbr5:=zbd hb5 hbr3
      obtain⟨st,hst⟩:∃ st,st=E.st:=⟨_,rfl⟩
      have HST:=zak hst
      clear hO3 q q2
      unfold entV at q4 hb5 q3 hbr5 ⊢
      rw[← hst] at q4 hb5 q3 hbr5 ⊢
      have HSK:=zak (HSJ.out.below (zbd hb5 hb3))
      clear hst
      cases st
      · have HR:Hid (checkL L X=8):= zak (by rw[HV.out,HCS.out,← HST.out];rfl)
        go_wp2_with fail
        go_ret
        exact⟨za0 HR.out.symm,hbr5⟩
      · have HCS2:Hid (chkS L v=if valC E v.data≠0 then 4 else 0):= zak (by rw[HCS.out,← HST.out];rfl)
        obtain⟨q3_c0,q3_c1,q3_c2⟩:= zbh q3
        have q3_f:=q3.frozen
        obtain⟨q4_c0,q4_c1,q4_c2,q4_c3,q4_c4,q4_c5,q4_c6,q4_c7,q4_c8,q4_c9,q4_c10⟩:= zbl q4
        have q4_f:=q4.frozen
        go_wp2_with fail
        refine (zst { E with st:=true } A3 E.df.length c3 Aj v.data.length cj v.data _ rfl HCJ.out HVD.out HSK.out).mono ?_
        rintro e w4 ⟨rfl,hb6⟩
        have hbr6:=zbd hb6 hbr5
        obtain⟨cc,hcc⟩:∃ cc,cc=valC E v.data:=⟨_,rfl⟩
        have hcc':valueE ({ E with st:=true }:Ent).ty ({ E with st:=true }:Ent).mx ({ E with st:=true }:Ent).lo ({ E with st:=true }:Ent).hi v.data=cc:=by rw[hcc];rfl
        rw[hcc']
        rw[← hcc] at HCS2
        clear hcc hcc'
        by_cases h0:cc=0
        · have HR:Hid (checkL L (X.drop (k+1))=checkL L X):= zak (by rw[HV.out,HCS2.out,h0];rfl)
          go_wp2_with fail
          go_roundw
          case rel=>exact⟨k+1,by omega,by go_num,HR,hbr6⟩
          case measure=>simp[intOf];omega
        · have HR:Hid (checkL L X=4):= zak (by rw[HV.out,HCS2.out,if_pos h0];rfl)
          go_wp2_with fail
          go_ret
          exact⟨za0 HR.out.symm,hbr6⟩
    · have hh:hasL L v.ix v.sub=false:=by simp[hasL,hf]
      have hlk:locK L v.ix v.sub=0:=by unfold locK;omega
      have HR:Hid (checkL L X=8):= zak (by rw[HV.out];have:chkS L v=8:=by unfold chkS;rw[hh];rfl
                                           rw[this];rfl)
      rw[hh,hlk]
      clear hf hh hlk
      rcases Nat.eq_zero_or_pos n with h0 | h0
      · go_wp2_with fail
        refine (zta 0 _ p gl n cl cv Av HD3.out.blk (.inr ⟨by omega,by omega⟩)).mono ?_
        rintro e w3 ⟨rfl,hb4⟩
        have hbr5:=zbf (zbd hb4 hbr3) (.cells (entV zeroE none 0 0) 55)
        unfold entV zeroE at hbr5 ⊢
        go_wp2_with fail
        go_ret
        exact⟨za0 HR.out.symm,hbr5⟩
      · obtain⟨E,hE⟩:∃ E,L[0]? =some E:=⟨L[0]'(by rw[← HN.out];exact h0),List.getElem?_eq_getElem _⟩
        have HE:=zak hE
        clear hE
        go_wp2_with fail
        refine (ztb 0 E _ _ p gl n cl cv Av L V ds es HD3.out HE.out).mono ?_
        rintro e w3 ⟨A3,c3,rfl,hO3,hb4⟩
        have hbr5:=zbf (zbd hb4 hbr3) (.cells (entV E A3 E.df.length c3) 55)
        clear hO3
        unfold entV at hbr5 ⊢
        go_wp2_with fail
        go_ret
        exact⟨za0 HR.out.symm,hbr5⟩
  · have HR:Hid (checkL L X=0):= zak (by rw[← HC.out,List.drop_eq_nil_of_le (by rw[← HM.out];omega)];rfl)
    go_wp2_with fail
    go_ret
    exact⟨za0 HR.out.symm,hbr⟩
end
end
section
open Go.RowKit
set_option maxRecDepth 100000
set_option maxHeartbeats 4000000
section
variable {F:Nat→Prop} {p n cl cv:Nat} {Al Av:Option Addr} {L:List Ent} {V:List (List UInt8)} {ds es:List (Option Addr×Nat)}
theorem zvx (A:Option Addr) (m c:Nat) (X:List SV) (w:World) (hD:DB 112 w F p Al n cl Av cv L V ds es) (hn:n≤1000) (hm:m=X.length) (hmb:m≤1000) (hX:SlV w A X) (hf:fitsV X) :
 Calls Tryz.prog 113 #[.pointer (some ⟨p,0,none⟩),.slice A m c] w fun e w'=>e= .returned (.int .i64 (checkL L X))∧ Below w.heap.size w w':=by
 have HD:=zak hD
 have HN:=zak hD.ents.hn
 have HM:=zak hm
 have HX:=zak hX
 have HF:=zak hf
 have H1:=zak hn
 clear hD hm hX hf hn
 go_enter Tryz.func113,Tryz.ntmps113
 go_wp2_with fail
 go_loopw [5] (fun i wr=> ∃ k,k≤m∧i= .int .i64 (k:Nat)∧ Hid (checkL L (X.drop k)=checkL L X)∧ Below w.heap.size w wr) (fun i _=>m - (intOf i).toNat)
 case atStart=>exact⟨0,by omega,rfl,zak rfl,Below.refl _ _⟩
 case round=>
  obtain⟨k,hk,rfl,HC,hbr⟩:= hrel
  by_cases hlt:k < m
  · obtain⟨v,hv⟩:∃ v,X[k]? =some v:=⟨X[k]'(by rw[← HM.out];exact hlt),List.getElem?_eq_getElem _⟩
    obtain⟨b,off,Aj,cj,rfl,c0,c1,c2,hcj,hsj⟩:= (HX.out.below hbr) k v hv
    have HV:Hid (checkL L X=if chkS L v≠0 then chkS L v else checkL L (X.drop (k+1))):= zak (by rw[← HC.out];exact zvv hv)
    have HSJ:=zak hsj
    have HCJ:=zak hcj
    have hvd:=HF.out v (List.mem_of_getElem? hv)
    have HVD:=zak hvd
    have HDr:=zak (HD.out.below hbr)
    have zb:=zal c0
    simp only[] at zb
    obtain⟨i1,i2,i3⟩:= zbr hlt
    clear hv hcj hsj hvd
    go_wp2_with fail
    refine wp_region_held_drew (S:=(fun w'=>(∀ qA:Addr,qA.block < (wr).heap.size→w'.cell? qA=(wr).cell? qA)∧ Below (wr).heap.size (wr) w')) (by kernel_rfl) ?hS1 (fun hHeld=>?rest1)
    case hS1=>((try dsimp only);(((try go_split_ands);refine zbc ?_;all_goals exact bl)))
    case' rest1=>skip
    iterate 11 (refine tkN ?_;try simp only[PqL,Act.put])
    refine wpAnyH_ready (rs:= [11]) (by kernel_rfl) (by simp) ?_
    refine AllReadyH.cons (o:=_) rfl (fun K hK=>?_) .nil
    go_simp
    refine (ztr v.ix v.sub _ (HDr.out.below (Below.drew (Below.refl _ _))) H1.out).mono ?_
    rintro e w2 ⟨rfl,hw2⟩
    subst hw2
    dsimp only
    refine hK.out _ _ ?hS15 (fun hHeld=>?rest15)
    case hS15=>((try dsimp only);(((try go_split_ands);refine zbc ?_;all_goals exact bl)))
    case' rest15=>(clear hK K;try simp only[PqL,Act.put])
    refine tkH 12 ?_
    try simp only[PqL,Act.put]
    refine wpAnyH_done (by kernel_rfl) ?_ _
    have hEnd:=hHeld.2
    repeat (clear hHeld)
    clear hEnd
    by_cases hf:0≤findL L v.ix v.sub
    · obtain⟨j,hj,hlj,hjl⟩:= zp3 hf
      obtain⟨E,hE⟩:∃ E,L[j]? =some E:=⟨L[j],List.getElem?_eq_getElem _⟩
      have hh:hasL L v.ix v.sub=true:=by simp[hasL,hf]
      have HCS:Hid (chkS L v=if E.st=false then 8 else if valC E v.data≠0 then 4 else 0):= zak (by unfold chkS;rw[hh,hlj,zpl hE];simp)
      rw[hj]
      have hjn:j < n:=by rw[HN.out];exact hjl
      obtain⟨g,d,rfl,zg,_,_,_,e0,e1,e2,e3,e4,e5,e6,e7,e8,e9,e10⟩:= HDr.out.ent hE
      have hBr:=HDr.out.blk
      have zp:=hBr.lt
      have hj0:(0:Int)≤ (j:Int):= by omega
      obtain⟨j1,j2,j3⟩:= zbr hjn
      clear hf hj hlj hh hE hjl
      obtain⟨hBr_c0,hBr_c1⟩:= zbg hBr
      have hBr_f:=hBr.frozen
      cases hst:E.st
      · have HR:Hid (checkL L X=8):= zak (by rw[HV.out,HCS.out,hst];rfl)
        rw[hst] at e6
        clear hst
        go_wp2_with fail
        go_ret
        exact⟨za0 HR.out.symm,hbr.drew⟩
      · have HCS2:Hid (chkS L v=if valC E v.data≠0 then 4 else 0):= zak (by rw[HCS.out,hst];rfl)
        rw[hst] at e6
        clear hst
        go_wp2_with fail
        refine wp_region_held_drew (S:=(fun w'=>(∀ qA:Addr,qA.block < (wr).heap.size→w'.cell? qA=(wr).cell? qA)∧ Below (wr).heap.size (wr) w')) (by kernel_rfl) ?hS18 (fun hHeld=>?rest18)
        case hS18=>((try dsimp only);(((try go_split_ands);refine zbc ?_;all_goals exact bl)))
        case' rest18=>skip
        iterate 12 (refine tkN ?_;try simp only[PqL,Act.put])
        refine wpAnyH_ready (rs:= [12]) (by kernel_rfl) (by simp) ?_
        refine AllReadyH.cons (o:=_) rfl (fun K hK=>?_) .nil
        go_simp
        refine (zrh { E with st:=true } d.1 E.df.length d.2 Aj v.data.length cj v.data _ rfl HCJ.out HVD.out HSJ.out.drew.drew).mono ?_
        rintro e w4 ⟨rfl,hb6⟩
        obtain⟨cc,hcc⟩:∃ cc,cc=valC E v.data:=⟨_,rfl⟩
        have hcc':valueE ({ E with st:=true }:Ent).ty ({ E with st:=true }:Ent).mx ({ E with st:=true }:Ent).lo ({ E with st:=true }:Ent).hi v.data=cc:=by rw[hcc];rfl
        rw[hcc']
        rw[← hcc] at HCS2
        clear hcc hcc'
        dsimp only
        refine hK.out _ _ ?hS33 (fun hHeld=>?rest33)
        case hS33=>((try dsimp only);(((try go_split_ands);refine zbc ?_;all_goals exact bl)))
        case' rest33=>(clear hK K;try simp only[PqL,Act.put])
        refine tkH 13 ?_
        try simp only[PqL,Act.put]
        refine wpAnyH_done (by kernel_rfl) ?_ _
        have hEnd:=hHeld.2
        repeat (clear hHeld)
        have hbr6:=zbd hEnd hbr
        by_cases h0:cc=0
        · have HR:Hid (checkL L (X.drop (k+1))=checkL L X):= zak (by rw[HV.out,HCS2.out,h0];rfl)
          go_wp2_with fail
          go_roundw
          case rel=>exact⟨k+1,by omega,by go_num,HR,hbr6⟩
          case measure=>simp[intOf];omega
        · have HR:Hid (checkL L X=4):= zak (by rw[HV.out,HCS2.out,if_pos h0];rfl)
          go_wp2_with fail
          go_ret
          exact⟨za0 HR.out.symm,hbr6⟩
    · have HR:Hid (checkL L X=8):= zak (by
       rw[HV.out]
       have:chkS L v=8:=by unfold chkS;rw[show hasL L v.ix v.sub=false by simp[hasL,hf]];rfl
       rw[this];rfl)
      have hf':findL L v.ix v.sub < 0:=by omega
      clear hf
      go_wp2_with fail
      go_ret
      exact⟨za0 HR.out.symm,hbr.drew⟩
  · have HR:Hid (checkL L X=0):= zak (by rw[← HC.out,List.drop_eq_nil_of_le (by rw[← HM.out];omega)];rfl)
    go_wp2_with fail
    go_ret
    exact⟨za0 HR.out.symm,hbr⟩
end
end
section
open Go.RowKit
set_option maxRecDepth 100000
set_option maxHeartbeats 4000000
section
variable {F:Nat→Prop} {p n cl cv:Nat} {Av:Option Addr} {L:List Ent} {V:List (List UInt8)} {ds es:List (Option Addr×Nat)} {gl:Nat}
def applyV (L:List Ent) (V:List (List UInt8)) (X:List SV):List (List UInt8):= if checkL L X=0 then pokeAll L V X else V
def ApplyR (F:Nat→Prop) (p gl n cl:Nat) (Av:Option Addr) (cv:Nat) (L:List Ent) (V:List (List UInt8)) (ds:List (Option Addr×Nat)) (X:List SV) (w:World) (e:Ending) (w':World):Prop:=
 ∃ V' es',e= .returned (.int .i64 (checkL L X))∧ V'=applyV L V X∧DB 102 w' (fun g=>F g∨w.heap.size≤g) p (some ⟨gl,0,none⟩) n cl Av cv L V' ds es'∧zcj F w w'
theorem zvy (A:Option Addr) (m c:Nat) (X:List SV) (w:World) (hD:DB 102 w F p (some ⟨gl,0,none⟩) n cl Av cv L V ds es) (hs:SortedE L) (hn:n≤1000) (hm:m=X.length) (hmb:m≤1000) (hX:∀ W,zcj F w W→SlV W A X) (hf:fitsV X) :
 Calls Tryz.prog 55 #[.pointer (some ⟨p,0,none⟩),.slice A m c] w (ApplyR F p gl n cl Av cv L V ds X w):= by
 have HCK:=zak (zvw A m c X w hD hs hn hm hmb (hX w (zcj.refl _ _)) hf)
 have HD:=zak hD
 have HS:=zak hs
 have HM:=zak hm
 have HX:=zak hX
 have HF:=zak hf
 have H1:=zak hn
 obtain⟨cc,hcc⟩:∃ cc,cc=checkL L X:=⟨_,rfl⟩
 have HCC:=zak hcc
 clear hD hs hm hX hf hn hcc
 go_enter Tryz.func55,Tryz.ntmps55
 go_wp2_with fail
 refine HCK.out.mono ?_
 rintro e w1 ⟨rfl,hb1⟩
 rw[← HCC.out]
 have HD1:=zak (HD.out.below hb1)
 by_cases h0:cc=0
 · have HA:Hid (applyV L V X=pokeAll L V X):= zak (by unfold applyV;rw[← HCC.out,if_pos h0])
   subst h0
   have HO1:Hid (zcj F w w1):= zak (zcj.of_below hb1)
   have HD0:Hid (DB 102 w1 (fun g=>F g∨w.heap.size≤g) p (some ⟨gl,0,none⟩) n cl Av cv L (pokeAll L V (X.take 0)) ds es):= zak (HD1.out.mono (fun g _ h=> .inl h))
   clear hb1
   go_wp2_with fail
   go_loopw [16] (fun i wr=> ∃ k es',k≤m∧i= .int .i64 (k:Nat)∧ Hid (DB 102 wr (fun g=>F g∨w.heap.size≤g) p (some ⟨gl,0,none⟩) n cl Av cv L (pokeAll L V (X.take k)) ds es')∧ Hid (zcj F w wr)) (fun i _=>m - (intOf i).toNat)
   case atStart=>exact⟨0,es,by omega,rfl,HD0,HO1⟩
   case round=>
    obtain⟨k,es',hk,rfl,HDr,HOr⟩:= hrel
    by_cases hlt:k < m
    · obtain⟨v,hv⟩:∃ v,X[k]? =some v:=⟨X[k]'(by rw[← HM.out];exact hlt),List.getElem?_eq_getElem _⟩
      obtain⟨b,off,Aj,cj,rfl,c0,c1,c2,hcj,hsj⟩:= (HX.out wr HOr.out) k v hv
      have HV:=zak hv
      have q:=zbm wr 52 #[.int .i64 v.ix,.int .i64 v.sub,.slice Aj v.data.length cj]
      have hb2:=zbf (Below.refl wr.heap.size wr) (.cells #[.int .i64 v.ix,.int .i64 v.sub,.slice Aj v.data.length cj] 52)
      have HSJ:=zak (hsj.below hb2)
      have HCJ:=zak hcj
      have hvd:=HF.out v (List.mem_of_getElem? hv)
      have HVD:=zak hvd
      have HDq:=zak (HDr.out.below hb2)
      obtain⟨i1,i2,i3⟩:= zbr hlt
      clear hv hcj hsj hvd
      go_wp2_with fail
      refine (zs0 v.ix v.sub Aj v.data.length cj v.data _ HDq.out HS.out H1.out rfl HCJ.out HVD.out HSJ.out).mono ?_
      rintro e w2 ⟨V2,es2,rfl,hV2,hD2,ho2⟩
      have hzr:=HOr.out.size
      have hz2:=hb2.size
      have HD3:Hid (DB 102 w2 (fun g=>F g∨w.heap.size≤g) p (some ⟨gl,0,none⟩) n cl Av cv L (pokeAll L V (X.take (k+1))) ds es2):= zak (by
       rw[zua HV.out,← hV2]
       exact hD2.mono (fun g _ h=>h.elim id (fun h=> .inr (Nat.le_trans (Nat.le_trans hzr hz2) h))))
      have HO3:Hid (zcj F w w2):= zak ((HOr.out.step hb2).trans ho2 (fun i hi h=>h.elim id (fun h=>by omega)))
      clear hD2 ho2 hV2 hzr hz2
      go_wp2_with fail
      go_roundw
      case rel=>exact⟨k+1,_,by omega,by go_num,HD3,HO3⟩
      case measure=>simp[intOf];omega
    · go_wp2_with fail
      go_ret
      have h1:=HDr.out
      rw[List.take_of_length_le (by rw[← HM.out];omega)] at h1
      exact⟨_,es',za0 HCC.out,HA.out.symm,h1,HOr.out⟩
 · have HA:Hid (applyV L V X=V):= zak (by unfold applyV;rw[← HCC.out,if_neg h0])
   go_wp2_with fail
   go_ret
   exact⟨_,es,za0 HCC.out,HA.out.symm,HD1.out.mono (fun g _ h=> .inl h),zcj.of_below hb1⟩
end
end
section
open Go.RowKit
set_option maxRecDepth 100000
set_option maxHeartbeats 4000000
section
variable {F:Nat→Prop} {p n cl cv:Nat} {Al Av:Option Addr} {L:List Ent} {V:List (List UInt8)} {ds es:List (Option Addr×Nat)}
def RApplyR (F:Nat→Prop) (p n cl:Nat) (Al Av:Option Addr) (cv:Nat) (L:List Ent) (V:List (List UInt8)) (ds:List (Option Addr×Nat)) (X:List SV) (w:World) (e:Ending) (w':World):Prop:=
 ∃ V' es',e= .returned (.int .i64 (checkL L X))∧ V'=applyV L V X∧DB 112 w' (fun g=>F g∨w.heap.size≤g) p Al n cl Av cv L V' ds es'∧zcj F w w'
theorem zvz (A:Option Addr) (m c:Nat) (X:List SV) (w:World) (hD:DB 112 w F p Al n cl Av cv L V ds es) (hn:n≤1000) (hm:m=X.length) (hmb:m≤1000) (hX:∀ W,zcj F w W→SlV W A X) (hf:fitsV X) :
 Calls Tryz.prog 116 #[.pointer (some ⟨p,0,none⟩),.slice A m c] w (RApplyR F p n cl Al Av cv L V ds X w):= by
 have HCK:=zak (zvx A m c X w hD hn hm hmb (hX w (zcj.refl _ _)) hf)
 have HD:=zak hD
 have HM:=zak hm
 have HX:=zak hX
 have HF:=zak hf
 have H1:=zak hn
 obtain⟨cc,hcc⟩:∃ cc,cc=checkL L X:=⟨_,rfl⟩
 have HCC:=zak hcc
 clear hD hm hX hf hn hcc
 go_enter Tryz.func116,Tryz.ntmps116
 go_wp2_with fail
 refine HCK.out.mono ?_
 rintro e w1 ⟨rfl,hb1⟩
 rw[← HCC.out]
 have HD1:=zak (HD.out.below hb1)
 by_cases h0:cc=0
 · have HA:Hid (applyV L V X=pokeAll L V X):= zak (by unfold applyV;rw[← HCC.out,if_pos h0])
   subst h0
   have HO1:Hid (zcj F w w1):= zak (zcj.of_below hb1)
   have HD0:Hid (DB 112 w1 (fun g=>F g∨w.heap.size≤g) p Al n cl Av cv L (pokeAll L V (X.take 0)) ds es):= zak (HD1.out.mono (fun g _ h=> .inl h))
   clear hb1
   go_wp2_with fail
   go_loopw [6] (fun i wr=> ∃ k es',k≤m∧i= .int .i64 (k:Nat)∧ Hid (DB 112 wr (fun g=>F g∨w.heap.size≤g) p Al n cl Av cv L (pokeAll L V (X.take k)) ds es')∧ Hid (zcj F w wr)) (fun i _=>m - (intOf i).toNat)
   case atStart=>exact⟨0,es,by omega,rfl,HD0,HO1⟩
   case round=>
    obtain⟨k,es',hk,rfl,HDr,HOr⟩:= hrel
    by_cases hlt:k < m
    · obtain⟨v,hv⟩:∃ v,X[k]? =some v:=⟨X[k]'(by rw[← HM.out];exact hlt),List.getElem?_eq_getElem _⟩
      obtain⟨b,off,Aj,cj,rfl,c0,c1,c2,hcj,hsj⟩:= (HX.out wr HOr.out) k v hv
      have HV:=zak hv
      have HSJ:=zak hsj
      have HCJ:=zak hcj
      have hvd:=HF.out v (List.mem_of_getElem? hv)
      have HVD:=zak hvd
      have HDq:=zak (HDr.out.below (Below.drew (Below.refl _ _)))
      have HXX:=zak (fun W (h:zcj F w W)=> HX.out W h k v hv)
      obtain⟨i1,i2,i3⟩:= zbr hlt
      clear hv hcj hsj hvd
      go_wp2_with fail
      refine zaj (fun w'=>w'.cell? ⟨b,off+k * 3,none⟩=some (.int .i64 v.ix)∧ w'.cell? ⟨b,off+k * 3+1,none⟩=some (.int .i64 v.sub)∧ w'.cell? ⟨b,off+k * 3+2,none⟩=some (.slice Aj v.data.length cj)) [0,1,2,3,4,5,6,7,8,9,10,11,12,13,14,15] (by kernel_rfl) ?hS36 (fun hHeld=>?rest36)
      case hS36=>((try dsimp only);exact⟨c0,c1,c2⟩)
      case' rest36=>skip
      refine tkT 0 ?_
      try simp only[PqL,Act.put]
      refine tkT 1 ?_
      try simp only[PqL,Act.put]
      refine tkT 2 ?_
      try simp only[PqL,Act.put]
      refine tkT 3 ?_
      try simp only[PqL,Act.put]
      refine tkT 4 ?_
      try simp only[PqL,Act.put]
      refine tkT 5 ?_
      try simp only[PqL,Act.put]
      refine tkT 6 ?_
      try simp only[PqL,Act.put]
      refine tkT 7 ?_
      try simp only[PqL,Act.put]
      refine tkT 8 ?_
      try simp only[PqL,Act.put]
      refine tkT 9 ?_
      try simp only[PqL,Act.put]
      refine tkT 10 ?_
      try simp only[PqL,Act.put]
      refine tkT 11 ?_
      try simp only[PqL,Act.put]
      refine tkT 12 ?_
      try simp only[PqL,Act.put]
      refine tkT 13 ?_
      try simp only[PqL,Act.put]
      refine tkT 14 ?_
      try simp only[PqL,Act.put]
      refine tkT 15 ?_
      try simp only[PqL,Act.put]
      refine zah (i:=16) (o:=_) rfl (by kernel_rfl) (by kernel_rfl) (fun K hK=>?_)
      go_simp
      refine (zt5 v.ix v.sub Aj v.data.length cj v.data _ HDq.out H1.out rfl HCJ.out HVD.out HSJ.out.drew).mono ?_
      rintro e w2 ⟨V2,es2,rfl,hV2,hD2,ho2⟩
      dsimp only
      have hzr:=HOr.out.size
      have HD3:Hid (DB 112 w2 (fun g=>F g∨w.heap.size≤g) p Al n cl Av cv L (pokeAll L V (X.take (k+1))) ds es2):= zak (by
       rw[zua HV.out,← hV2]
       exact hD2.mono (fun g _ h=>h.elim id (fun h=> .inr (Nat.le_trans hzr h))))
      have HO3:Hid (zcj F w w2):= zak (HOr.out.trans (zub ho2) (fun i hi h=>h.elim id (fun h=>by omega)))
      clear hD2 ho2 hV2 hzr
      refine hK.out _ _ ?_
      clear hK K
      try simp only[PqL,Act.put]
      refine zai (by kernel_rfl) ?_ _
      repeat (clear hHeld)
      go_wp2_with fail
      go_roundw
      case rel=>exact⟨k+1,_,by omega,by go_num,HD3,HO3⟩
      case measure=>simp[intOf];omega
    · go_wp2_with fail
      go_ret
      have h1:=HDr.out
      rw[List.take_of_length_le (by rw[← HM.out];omega)] at h1
      exact⟨_,es',za0 HCC.out,HA.out.symm,h1,HOr.out⟩
 · have HA:Hid (applyV L V X=V):= zak (by unfold applyV;rw[← HCC.out,if_neg h0])
   go_wp2_with fail
   go_loopw [6] (fun i wr=>i= .int .i64 0∧wr=w1) (fun _ _=>0)
   case atStart=>exact⟨rfl,rfl⟩
   case round=>
    obtain⟨rfl,rfl⟩:= hrel
    rcases (show m=0∨0 < m by omega) with hm0 | hm0
    all_goals
     go_wp2_with fail
     go_ret
     exact⟨_,es,za0 HCC.out,HA.out.symm,HD1.out.mono (fun g _ h=> .inl h),zcj.of_below hb1⟩
end
end
end
end Go.Proofs.YtehabbnohoomjaaGreatDoor
