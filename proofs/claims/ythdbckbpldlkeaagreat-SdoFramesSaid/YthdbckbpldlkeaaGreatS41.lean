/- None -/
import Derived.Test.YthdbckbpldlkeaaGreatS40
namespace Go.Proofs.YthdbckbpldlkeaaGreat
set_option linter.unusedVariables false
set_option linter.unusedSimpArgs false
set_option linter.unnecessarySimpa false
section
def sdSeg (k:Int):Bool:=decide (2≤k) && decide (k≤5)
def sdBeg (k:Int):Bool:=decide (k=2∨k=4∨k=6∨k=8)
def sdRst (X:SdoS):SdoS:={ X with sg:=segIdle X.sg,bk:=blkIdle X.bk }
def sdDS (L:List Ent) (V:List (List UInt8)) (X:SdoS) (M:Ms):SdoS:=
 if M.kind=1 then sdRst X else
 if sdSeg M.kind=true then
  (if sdBeg M.kind=true then { X with sg:=recvS L V X.sg M,bk:=blkIdle X.bk } else if X.bk.st≠0 then { X with bk:=blkIdle X.bk } else { X with sg:=recvS L V X.sg M })
 else (if sdBeg M.kind=true then { X with sg:=segIdle X.sg,bk:=brS L V X.bk M } else if X.sg.st≠0 then { X with sg:=segIdle X.sg } else { X with bk:=brS L V X.bk M })
def sdDO (L:List Ent) (V:List (List UInt8)) (X:SdoS) (M:Ms):SegO:=
 if M.kind=1 then outZ else
 if sdSeg M.kind=true then
  (if sdBeg M.kind=true then recvO L V X.sg M else if X.bk.st≠0 then outM (abM X.bk.ix X.bk.sub 84148225) else recvO L V X.sg M)
 else (if sdBeg M.kind=true then brO L V X.bk M else if X.sg.st≠0 then outM (abM X.sg.ix X.sg.sub 84148225) else brO L V X.bk M)
def sdReq (X:SdoS) (f:Frm):Bool:=decide (f.id=X.nin∧f.re=false∧f.data.length=8)
def sdRS (L:List Ent) (V:List (List UInt8)) (X:SdoS) (f:Frm):SdoS:=
 if sdReq X f=true then (if sdRc X f.data≠0 then sdAbS { X with left:=50 } else sdDS L V { X with left:=50 } (resM (sdKs X f.data) f.data)) else X
def sdRO (L:List Ent) (V:List (List UInt8)) (X:SdoS) (f:Frm):SegO:=
 if sdReq X f=true then (if sdRc X f.data≠0 then outL (sdAbL X (sdRc X f.data)) else sdDO L V X (resM (sdKs X f.data) f.data)) else outZ
def sdBusy (X:SdoS):Bool:=(X.sg.st != 0) || (X.bk.st != 0)
def sdTS (X:SdoS):SdoS:=if sdBusy X=true then (if 0 < X.left - 1 then { X with left:=X.left - 1 } else sdAbS { X with left:=X.left - 1 }) else X
def sdTL (X:SdoS):List Ms:=if sdBusy X=true then (if 0 < X.left - 1 then [] else sdAbL X 84148224) else []
def sdAS (X:SdoS):SdoS:={ X with sg:=answerS X.sg,bk:=bAnswerS X.bk }
def sdAL (X:SdoS) (code:Nat):List Ms:=answerL X.sg code ++ bAnswerL X.bk code
def znl (S:SegS):Prop:=(S.st=1→S.mo≤256∧S.b.length≤256)∧ (S.st=2→S.b.length≤256)
theorem znl.bytes {S:SegS} (h:znl S):S.st=1∨S.st=2→S.b.length≤256:=fun h1=>h1.elim (fun h1=>(h.1 h1).2) h.2
theorem znm {S:SegS} (h:S.st=0):znl S:=⟨fun h1=>by omega,fun h1=>by omega⟩
theorem znn {L:List Ent} {V:List (List UInt8)} {S:SegS} {M:Ms} (hv:∀ v ∈ V,v.length≤256) (h:znl S):znl (recvS L V S M):= by
 unfold recvS
 split
 · exact znm rfl
 split
 · unfold downS
   split
   · exact znm rfl
   split
   · exact⟨fun h1=>absurd h1 (show ¬ (3:Int)=1 by decide),fun h1=>absurd h1 (show ¬ (3:Int)=2 by decide)⟩
   · exact⟨fun _=>⟨(zmz _).2,Nat.zero_le _⟩,fun h1=>absurd h1 (show ¬ (1:Int)=2 by decide)⟩
 split
 · unfold upS
   split
   · exact znm rfl
   split
   · exact znm rfl
   · exact⟨fun h1=>absurd h1 (show ¬ (2:Int)=1 by decide),fun _=>zm0 hv _ _⟩
 split
 · rename_i hk
   obtain⟨_,h1⟩:= hk
   have h2:=h.1 h1
   unfold partS
   split
   · exact znm rfl
   rename_i htg
   split
   · exact znm rfl
   rename_i hp
   have hp:pcode S M=0:=by omega
   split
   · exact⟨fun h1=>absurd h1 (show ¬ (3:Int)=1 by decide),fun h1=>absurd h1 (show ¬ (3:Int)=2 by decide)⟩
   · refine⟨fun _=>⟨h2.1,?_⟩,fun h3=>by have:S.st=2:=h3;omega⟩
     show (S.b ++ M.data).length≤256
     unfold pcode at hp
     rw[if_neg htg] at hp
     split at hp
     · omega
     · rename_i h4
       have: ¬ S.mo < ((S.b ++ M.data).length:Int):= fun h5=>h4 (.inl h5)
       omega
 split
 · rename_i hk
   obtain⟨_,h1⟩:= hk
   have h2:=h.2 h1
   unfold nextS
   split
   · exact znm rfl
   split
   · exact znm rfl
   · refine⟨fun h3=>by have:S.st=1:=h3;omega,fun _=>?_⟩
     show (S.b.drop 7).length≤256
     simp
     omega
 · exact znm rfl
structure SdWf (X:SdoS):Prop where
 sg:znl X.sg
 bk:BWf X.bk
 one:X.sg.st=0∨X.bk.st=0
 lf:sdBusy X=true→1≤X.left∧X.left≤50
theorem zno {X:SdoS} (h1:X.sg.st=0) (h2:X.bk.st=0):sdBusy X=false:=by simp[sdBusy,h1,h2]
theorem znp {X:SdoS} (h:X.sg.st=0∨X.bk.st=0):(sdAbS X).sg.st=0∧(sdAbS X).bk.st=0:=by
 unfold sdAbS
 split
 · rename_i h1
   exact⟨rfl,by rcases h with h | h;exact absurd h h1;exact h⟩
 · rename_i h1
   have h1:X.sg.st=0:=by omega
   split
   · exact⟨h1,rfl⟩
   · rename_i h2
     exact⟨h1,by omega⟩
theorem znq {X:SdoS} (h1:znl X.sg) (h2:BWf X.bk) (h:X.sg.st=0∨X.bk.st=0):SdWf (sdAbS X):= by
 obtain⟨h3,h4⟩:= znp h
 refine⟨znm h3,?_,.inl h3,fun hb=>by rw[zno h3 h4] at hb;cases hb⟩
 unfold sdAbS
 split
 · exact h2
 split
 · exact zm3 h2
 · exact h2
theorem znr {L:List Ent} {V:List (List UInt8)} {X:SdoS} {M:Ms} (hv:∀ v ∈ V,v.length≤256) (h1:znl X.sg) (h2:BWf X.bk) (h:X.sg.st=0∨X.bk.st=0) (hL:1≤X.left∧X.left≤50) (hM:BMOk M):SdWf (sdDS L V X M):= by
 unfold sdDS
 split
 · exact⟨znm rfl,zm3 h2,.inl rfl,fun _=>hL⟩
 split
 · split
   · exact⟨znn hv h1,zm3 h2,.inr rfl,fun _=>hL⟩
   split
   · exact⟨h1,zm3 h2,.inr rfl,fun _=>hL⟩
   · rename_i h3
     exact⟨znn hv h1,h2,.inr (show X.bk.st=0 by omega),fun _=>hL⟩
 · split
   · exact⟨znm rfl,zm5 hv h2 hM,.inl rfl,fun _=>hL⟩
   split
   · exact⟨znm rfl,h2,.inl rfl,fun _=>hL⟩
   · rename_i h3
     exact⟨h1,zm5 hv h2 hM,.inl (show X.sg.st=0 by omega),fun _=>hL⟩
theorem zns (b:List UInt8) (i:Nat):byt b i < 256:=by
 have:=(b.getD i 0).toNat_lt
 unfold byt
 omega
theorem znt (f:Int) (M:Ms) (h:BMOk M):BMOk (onlyM f M):= by
 obtain⟨h1,h2,h3,h4⟩:= h
 refine⟨?_,?_,?_,?_⟩<;> (unfold onlyM;simp only[];split<;>omega)
theorem znu (k:Int) (b:List UInt8):BMOk (preM k b):= by
 have h4:leN ((b.drop 4).take 4)≤ 4294967295:=by
  have h:=zan ((b.drop 4).take 4)
  have hp:256 ^ ((b.drop 4).take 4).length≤256 ^ 4:=Nat.pow_le_pow_right (by omega) (List.length_take_le _ _)
  have:(256:Nat) ^ 4=4294967296:=by decide
  omega
 have b0:=zns b 0
 have b1:=zns b 1
 have b2:=zns b 2
 have b4:=zns b 4
 refine⟨h4,⟨by show (0:Int)≤ ((byt b 0 / 4 % 8:Nat):Int);omega,by show ((byt b 0 / 4 % 8:Nat):Int)≤ 1000;omega⟩,?_,?_⟩
 · unfold preM
   simp only[]
   split<;>omega
 · unfold preM
   simp only[]
   split<;>omega
theorem znv (ks:List Int) (b:List UInt8):BMOk (resM ks b):= by
 have hz:BMOk msZ:=⟨by decide,by decide,by decide,by decide⟩
 unfold resM
 split
 · have h:∀ ks,∀ x,ofM ks b=some x→BMOk x:=by
    intro ks
    induction ks with
    | nil=>intro x hx;cases hx
    | cons k ks ih=>
      intro x hx
      unfold ofM at hx
      split at hx
      · injection hx with hx
        subst hx
        exact znt _ _ (znu k b)
      · exact ih x hx
   cases ho:ofM ks b with
   | none=>exact hz
   | some x=>exact h ks x ho
 · exact hz
theorem znw {L:List Ent} {V:List (List UInt8)} {X:SdoS} {f:Frm} (hv:∀ v ∈ V,v.length≤256) (h:SdWf X):SdWf (sdRS L V X f):= by
 unfold sdRS
 split
 · split
   · exact znq (X:={ X with left:=50 }) h.sg h.bk h.one
   · exact znr (X:={ X with left:=50 }) hv h.sg h.bk h.one ⟨show (1:Int)≤ 50 by decide,show (50:Int)≤ 50 by decide⟩ (znv _ _)
 · exact h
theorem znx {X:SdoS} (h:SdWf X):SdWf (sdTS X):= by
 unfold sdTS
 split
 · rename_i hb
   have hl:=h.lf hb
   split
   · rename_i h0
     exact⟨h.sg,h.bk,h.one,fun _=>⟨show 1≤X.left - 1 by omega,show X.left - 1≤50 by omega⟩⟩
   · exact znq (X:={ X with left:=X.left - 1 }) h.sg h.bk h.one
 · exact h
theorem zny {X:SdoS} (h:SdWf X):SdWf (sdAS X):= by
 have h1:X.sg.st=0→(answerS X.sg).st=0:=fun h0=>by unfold answerS;rw[if_neg (by omega)];exact h0
 have h2:X.bk.st=0→(bAnswerS X.bk).st=0:=fun h0=>by unfold bAnswerS;rw[if_neg (by omega)];exact h0
 refine⟨?_,?_,?_,fun hb=>h.lf ?_⟩
 · show znl (answerS X.sg)
   unfold answerS
   split
   · exact znm rfl
   · exact h.sg
 · show BWf (bAnswerS X.bk)
   unfold bAnswerS
   split
   · exact zm3 h.bk
   · exact h.bk
 · rcases h.one with h0 | h0
   · exact .inl (h1 h0)
   · exact .inr (h2 h0)
 · cases hq:sdBusy X
   · exfalso
     have h3:X.sg.st=0:=by simp[sdBusy] at hq;exact hq.1
     have h4:X.bk.st=0:=by simp[sdBusy] at hq;exact hq.2
     rw[zno (X:=sdAS X) (h1 h3) (h2 h4)] at hb
     cases hb
   · rfl
theorem znz (i o:Int):SdWf ⟨segZ,blkZ,i,o,0⟩:= ⟨znm rfl,bwf_z,.inl rfl,fun hb=>by rw[zno (X:=⟨segZ,blkZ,i,o,0⟩) rfl rfl] at hb;cases hb⟩
end
section
theorem zn0 (l:List UInt8):sum16L l≤65535:=by
 have:=zcl l
 unfold U16 at this
 omega
def AllOk (l:List Ms):Prop:= ∀ K ∈ l,MsOk K
theorem zn1:AllOk []:= by intro K hK;cases hK
theorem zn2 {M:Ms} (h:MsOk M):AllOk [M]:= by
 intro K hK
 simp at hK
 subst hK
 exact h
theorem zn3 {a b:List Ms} (h1:AllOk a) (h2:AllOk b):AllOk (a ++ b):= by
 intro K hK
 rcases List.mem_append.1 hK with h | h
 · exact h1 K h
 · exact h2 K h
theorem zn4 (ix sub:Int) (c:Nat) (h:c≤4294967295):MsOk (abM ix sub c):= ⟨Nat.zero_le _,h,Nat.zero_le _⟩
theorem zn5 {M:Ms} (h1:M.size≤4294967295) (h2:M.code=0) (h3:M.sum≤65535):MsOk M:=⟨h1,by rw[h2];exact Nat.zero_le _,h3⟩
theorem zn6 (L:List Ent) (ix sub:Int):smayC L ix sub≤4294967295:=by
 unfold smayC codeL writeE
 (repeat' split)<;> omega
theorem zn7 (L:List Ent) (ix sub:Int):getC L ix sub≤4294967295:=by
 unfold getC codeL readE
 (repeat' split)<;> omega
theorem zn8 (E:Ent) (n:Int):fitsC E n≤4294967295:=by
 unfold fitsC
 (repeat' split)<;> omega
theorem zn9 (L:List Ent) (M:Ms):dcode L M≤4294967295:=by
 unfold dcode
 split
 · exact zn8 _ _
 · exact zn6 _ _ _
theorem zoa (L:List Ent) (M:Ms):bdcode L M≤4294967295:=by
 unfold bdcode
 split
 · exact zn8 _ _
 · exact zn6 _ _ _
theorem zob (L:List Ent) (M:Ms):bucode L M≤4294967295:=by
 unfold bucode
 split
 · omega
 · exact zn7 _ _ _
theorem zoc (S:SegS) (c:Nat) (h:c≤4294967295):AllOk (abortL S c):= by
 unfold abortL
 split
 · exact zn1
 · exact zn2 (zn4 _ _ _ h)
theorem zod (S:BlkS) (c:Nat) (h:c≤4294967295):AllOk (bAbortL S c):= by
 unfold bAbortL
 split
 · exact zn1
 · exact zn2 (zn4 _ _ _ h)
theorem zoe {L:List Ent} {V:List (List UInt8)} {S:SegS} {M:Ms} (hv:∀ v ∈ V,v.length≤256):AllOk (recvO L V S M).ms:=by
 unfold recvO
 split
 · exact zn1
 split
 · unfold downO
   split
   · exact zn2 (zn4 _ _ _ (by have:=zn9 L M;omega))
   split
   · exact zn1
   · exact zn2 (zn5 (Nat.zero_le _) rfl (Nat.zero_le _))
 split
 · unfold upO
   split
   · exact zn2 (zn4 _ _ _ (by have:=zn7 L M.ix M.sub;omega))
   split
   · exact zn2 (zn5 (Nat.zero_le _) rfl (Nat.zero_le _))
   · exact zn2 (zn5 (by have:=zm0 (L:=L) hv M.ix M.sub;show (getB L V M.ix M.sub).length≤4294967295;omega) rfl (Nat.zero_le _))
 split
 · unfold partO
   split
   · refine zoc _ _ ?_
     unfold pcode
     (repeat' split)<;> decide
   split
   · exact zn1
   · exact zn2 (zn5 (Nat.zero_le _) rfl (Nat.zero_le _))
 split
 · unfold nextO
   split
   · exact zoc _ _ (by decide)
   · exact zn2 (zn5 (Nat.zero_le _) rfl (Nat.zero_le _))
 split<;>exact zn2 (zn4 _ _ _ (by decide))
theorem zof (S:BlkS):AllOk (bgiveL S):= by
 intro K hK
 unfold bgiveL at hK
 obtain⟨i,_,rfl⟩:= List.mem_map.1 hK
 exact zn5 (Nat.zero_le _) rfl (Nat.zero_le _)
theorem zog {L:List Ent} {V:List (List UInt8)} {S:BlkS} {M:Ms} (hv:∀ v ∈ V,v.length≤256):AllOk (brO L V S M).ms:=by
 unfold brO
 split
 · exact zn1
 split
 · unfold bdownO
   split
   · exact zn2 (zn4 _ _ _ (by have:=zoa L M;omega))
   · exact zn2 (zn5 (Nat.zero_le _) rfl (Nat.zero_le _))
 split
 · unfold bupO
   split
   · exact zn2 (zn4 _ _ _ (by have:=zob L M;omega))
   · exact zn2 (zn5 (by have:=zm0 (L:=L) hv M.ix M.sub;show (getB L V M.ix M.sub).length≤4294967295;omega) rfl (Nat.zero_le _))
 split
 · exact zn2 (zn4 _ _ _ (by decide))
 split
 · unfold bpartO
   split
   · refine zod _ _ ?_
     unfold bpcode
     (repeat' split)<;> decide
   split
   · exact zn1
   · exact zn2 (zn5 (Nat.zero_le _) rfl (Nat.zero_le _))
 split
 · unfold bendO
   split
   · refine zod _ _ ?_
     unfold becode
     (repeat' split)<;> decide
   · exact zn1
 split
 · exact zof S
 split
 · unfold backO
   split
   · refine zod _ _ ?_
     unfold bacode
     (repeat' split)<;> decide
   split
   · exact zof _
   · exact zn2 (zn5 (Nat.zero_le _) rfl (by show (if S.sm=true then sum16L S.b else 0)≤ 65535;split;exact zn0 _;exact Nat.zero_le _))
 split
 · exact zn1
 · exact zn2 (zn4 _ _ _ (by decide))
theorem zoh {L:List Ent} {V:List (List UInt8)} {X:SdoS} {M:Ms} (hv:∀ v ∈ V,v.length≤256):AllOk (sdDO L V X M).ms:=by
 unfold sdDO
 split
 · exact zn1
 split
 · split
   · exact zoe hv
   split
   · exact zn2 (zn4 _ _ _ (by decide))
   · exact zoe hv
 · split
   · exact zog hv
   split
   · exact zn2 (zn4 _ _ _ (by decide))
   · exact zog hv
theorem zoi (X:SdoS) (c:Nat) (h:c≤4294967295):AllOk (sdAbL X c):= by
 unfold sdAbL
 split
 · exact zn2 (zn4 _ _ _ h)
 split
 · exact zn2 (zn4 _ _ _ h)
 · exact zn2 (zn4 _ _ _ h)
end
section
open Go.RowKit Go.Maps
set_option maxRecDepth 100000
set_option maxHeartbeats 8000000
theorem zoj (node:Int) (w:World):Calls Tryz.prog 24 #[.pointer none,.int .i64 node] w fun e w'=>e= .returned (.tuple #[.pointer none,.int .i64 17])∧ w=w':=by
 go_enter Tryz.func24,Tryz.ntmps24
 go_wp2_with fail
 go_ret2
 exact⟨rfl,rfl⟩
theorem zok (pd:Nat) (node:Int) (h: ¬ (1≤node∧node≤127)) (w:World):Calls Tryz.prog 24 #[.pointer (some ⟨pd,0,none⟩),.int .i64 node] w fun e w'=>e= .returned (.tuple #[.pointer none,.int .i64 1])∧ Below w.heap.size w w':=by
 have H1:=zak (fun W=>zmn 8 (.inr rfl) node h W)
 have H2:=zak (fun W=>zmn 7 (.inl rfl) node h W)
 clear h
 go_enter Tryz.func24,Tryz.ntmps24
 go_wp2_with fail
 refine (H1.out _).mono ?_
 rintro e w1 ⟨rfl,hb1⟩
 have HB1:=zak hb1
 clear hb1
 go_wp2_with fail
 refine (H2.out _).mono ?_
 rintro e w2 ⟨rfl,hb2⟩
 have HB2:=zak (HB1.out.trans (hb2.mono HB1.out.size))
 clear hb2
 go_wp2_with fail
 go_ret2
 exact⟨rfl,HB2.out⟩
def NewSR (pd:Nat) (node:Int) (w:World) (e:Ending) (w':World):Prop:=
 ∃ p ps pb,e= .returned (.tuple #[.pointer (some ⟨p,0,none⟩),.int .i64 0])∧ w.heap.size≤p∧w.heap.size≤ps∧w.heap.size≤pb∧DV w' (fun _=>False) p ps pb pd ⟨segZ,blkZ,1536+node,1408+node,0⟩∧ Below w.heap.size w w'
theorem zol (pd:Nat) (node:Int) (h:1≤node∧node≤127) (w:World):Calls Tryz.prog 24 #[.pointer (some ⟨pd,0,none⟩),.int .i64 node] w (NewSR pd node w):= by
 have H1:=zak (fun W=>zmm 8 (.inr rfl) node h W)
 have H2:=zak (fun W=>zmm 7 (.inl rfl) node h W)
 rw[if_neg (show ¬ (8:Int)=7 by decide)] at H1
 rw[if_pos rfl] at H2
 clear h
 go_enter Tryz.func24,Tryz.ntmps24
 go_wp2_with fail
 refine (H1.out _).mono ?_
 rintro e w1 ⟨rfl,hb1⟩
 have HB1:=zak hb1
 clear hb1
 go_wp2_with fail
 refine (H2.out _).mono ?_
 rintro e w2 ⟨rfl,hb2⟩
 have HB2:=zak (HB1.out.trans (hb2.mono HB1.out.size))
 clear hb2
 go_wp2_with fail
 refine (zji pd _).mono ?_
 rintro e w3 ⟨rfl,hS,hb3,hz3⟩
 have HB3:=zak (HB2.out.trans (hb3.mono HB2.out.size))
 have HS:=zak hS
 have HZ3:=zak hz3
 clear hS hb3 hz3
 go_wp2_with fail
 refine (zld pd _).mono ?_
 rintro e w4 ⟨rfl,hB,hb4,hz4⟩
 have HB4:=zak (HB3.out.trans (hb4.mono HB3.out.size))
 have HS4:=zak (HS.out.below hb4 (by have:=HZ3.out;omega))
 have HB:=zak hB
 have HZ4:=zak hz4
 clear hB hb4 hz4
 go_wp2_with fail
 go_ret2
 have hz2:=HB2.out.size
 have hz3:=HZ3.out
 have hz4:=HZ4.out
 have k:=Blk.new w4 143 (sdoL ⟨segZ,blkZ,1536+node,1408+node,0⟩ w2.heap.size w3.heap.size).toArray
 refine⟨w4.heap.size,w2.heap.size,w3.heap.size,rfl,by omega,by omega,by omega,⟨k,SV_.idle_ (HS4.out.alloc _) rfl,BV_.idle_ (HB.out.alloc _) rfl,⟨by omega,by omega,by omega⟩,⟨id,id,id⟩⟩,zc1 HB4.out _⟩
section
variable {w:World} {G:Nat→Prop} {p ps pb pd:Nat} {X:SdoS}
def CallF (w:World) (id:Int) (V:World→Prop) (F:Nat→Prop) (l:List Ms) (e:Ending) (w':World):Prop:=
 ∃ N As ns cs ds,e= .returned (.slice As ns cs)∧ w.heap.size≤N∧zgg w' (fun g=>N≤g) As ns cs (frmL id l) ds∧V w'∧zdv F w w'
theorem zom {w:World} {F:Nat→Prop} {A:Option Addr} {n c:Nat} {L:List Ms} {ds:List (Option Addr×Nat)} (h:zgb w F A n c L ds):SlM w A L:=by
 intro j M hM
 obtain⟨d,hd,hO,_⟩:= h.1.elem hM
 obtain⟨g,hA,hlt,hc⟩:= h.1.cells zf5 hM hd (by omega)
 refine⟨g,0,d.1,d.2,hA,?_,hO.own.sl⟩
 rw[Nat.zero_add]
 exact⟨hc 0 _ rfl,hc 1 _ rfl,hc 2 _ rfl,hc 3 _ rfl,hc 4 _ rfl,hc 5 _ rfl,hc 6 _ rfl,hc 7 _ rfl,hc 8 _ rfl,hc 9 _ rfl,hc 10 _ rfl,hc 11 _ rfl,hc 12 _ rfl,hc 13 _ rfl⟩
end
end
section
open Go.RowKit Go.Maps
set_option maxRecDepth 100000
set_option maxHeartbeats 8000000
section
variable {w w':World} {G:Nat→Prop} {p ps pb pd:Nat} {X:SdoS}
theorem DV.low (h:DV w G p ps pb pd X) (hb:Below w.heap.size w w'):DV w' G p ps pb pd X:=
 ⟨h.blk.below hb h.lt.1,h.seg.kept (fun q _ hl=>hb.block q hl) hb.size (fun _ _ g=>g),h.bkv.keep (fun q _ hl=>hb.block q hl) hb.size (fun _ _ g=>g),h.ne,h.ng⟩
theorem zon (X:SdoS) (c:Nat):(sdAbL X c).length=1:=by
 unfold sdAbL
 split
 · rfl
 split<;>rfl
theorem zoo (X:SdoS):(sdAbS X).nin=X.nin∧(sdAbS X).nout=X.nout∧(sdAbS X).left=X.left:=by
 unfold sdAbS
 split
 · exact⟨rfl,rfl,rfl⟩
 split<;>exact⟨rfl,rfl,rfl⟩
theorem DV.out_ (h:DV w G p ps pb pd X):w.cell? ⟨p,3,none⟩=some (.int .i64 X.nout):= h.blk.cell 3 rfl
theorem zop {w5:World} {Y:Nat→Prop} {N0:Nat} {As:Option Addr} {ns cs:Nat} {l:List Ms} {ds:List (Option Addr×Nat)} (h:DV w5 G p ps pb pd X) (hM:MsG w5 N0 Y As ns cs l ds) (hk:AllOk l) (hl:l.length≤1000) :
 Calls Tryz.prog 72 #[.pointer (some ⟨p,0,none⟩),.slice As ns cs] w5 (SendR X.nout l w5):=
 zmo p X.nout l As ns cs w5 h.out_ hM.1.1.hn (zom hM.1) hk (by rw[hM.1.1.hn];exact hl)
theorem zoq (h:DV w G p ps pb pd X) (hl: -1000000≤X.left∧X.left≤1000):Calls Tryz.prog 30 #[.pointer (some ⟨p,0,none⟩)] w (CallF w X.nout (fun w'=>DV w' G p ps pb pd (sdTS X)) (fun q=>q=p∨q=ps∨q=pb) (sdTL X)):= by
 obtain⟨P,hP⟩:∃ P,P=CallF w X.nout (fun w'=>DV w' G p ps pb pd (sdTS X)) (fun q=>q=p∨q=ps∨q=pb) (sdTL X):= ⟨_,rfl⟩
 rw[← hP]
 have HP:=zak hP
 have HD:=zak h
 have zp:=h.lt
 have c4:w.cell? ⟨p,4,none⟩=some (.int .i64 X.left):= h.blk.cell 4 rfl
 have f4:=h.blk.frozen 4
 have hw1:IntKind.i64.wrap (X.left - 1)=X.left - 1:=by unfold IntKind.wrap;simp[IntKind.signed,IntKind.bits];omega
 have HX:=zak (h.left_ (X.left - 1))
 have HO:Hid (zdv (fun q=>q=p) w (w.setCell ⟨p,4,none⟩ (.int .i64 (X.left - 1)))):= zak (zdv.of_set (F:=fun q=>q=p) rfl _)
 clear hP h
 go_enter Tryz.func30,Tryz.ntmps30
 go_wp2_with fail
 refine (zmp HD.out).mono ?_
 rintro e w1 ⟨rfl,hw⟩
 subst hw
 cases hb:((X.sg.st != 0) || (X.bk.st != 0))
 · have HB:Hid (sdBusy X=false):= zak hb
   clear hb
   go_wp2_with fail
   rw[HP.out]
   have hS:sdTS X=X:=by unfold sdTS;rw[if_neg (fun h=>by rw[HB.out] at h;cases h)]
   have hL:sdTL X= []:= by unfold sdTL;rw[if_neg (fun h=>by rw[HB.out] at h;cases h)]
   refine⟨w.heap.size,none,0,0,[],rfl,Nat.le_refl _,?_,?_,zdv.refl _ _⟩
   · rw[hL];exact zgg.nil _ _
   · rw[hS];exact HD.out
 · have HB:Hid (sdBusy X=true):= zak hb
   clear hb
   by_cases h1:1 < X.left
   · have hg:decide (1 < X.left)=true:=decide_eq_true h1
     have H0:Hid (0 < X.left - 1):= zak (by omega)
     clear h1
     go_wp2_with fail
     rw[HP.out]
     have hS:sdTS X= { X with left:=X.left - 1 }:= by unfold sdTS;rw[if_pos HB.out,if_pos H0.out]
     have hL:sdTL X= []:= by unfold sdTL;rw[if_pos HB.out,if_pos H0.out]
     refine⟨w.heap.size,none,0,0,[],rfl,Nat.le_refl _,?_,?_,HO.out.mono (fun q _ h=> .inl h)⟩
     · rw[hL];exact zgg.nil _ _
     · rw[hS];exact HX.out
   · have hg:decide (1 < X.left)=false:=decide_eq_false h1
     have H0:Hid (¬ 0 < X.left - 1):= zak (by omega)
     clear h1
     go_wp2_with fail
     refine (znf 84148224 HX.out).mono ?_
     rintro e w5 ⟨As,ns,cs,ds,rfl,h1,h2,h3⟩
     have HS5:=zak (zop h2 h1 (zoi _ _ (by decide)) (by rw[zon];decide))
     have H2:=zak h2
     have HO3:=zak ((HO.out.mono (G:=fun q=>q=p∨q=ps∨q=pb) (fun q _ h=> .inl h)).trans (h3.mono (G:=fun q=>q=p∨q=ps∨q=pb) (fun q _ h=> .inr h)) (fun _ _ h=>h))
     clear h1 h2 h3
     go_wp2_with fail
     refine HS5.out.mono ?_
     rintro e w6 ⟨A6,n6,c6,ds6,rfl,h6,hb6⟩
     have H6:=zak h6
     have HB6:=zak hb6
     clear h6 hb6
     go_wp2_with fail
     rw[HP.out]
     have hS:sdTS X=sdAbS { X with left:=X.left - 1 }:= by unfold sdTS;rw[if_pos HB.out,if_neg (by have:=H0.out;omega)]
     have hL:sdTL X=sdAbL { X with left:=X.left - 1 } 84148224:=by unfold sdTL;rw[if_pos HB.out,if_neg (by have:=H0.out;omega)];rfl
     refine⟨w5.heap.size,A6,n6,c6,ds6,rfl,HO3.out.size,?_,?_,HO3.out.step HB6.out⟩
     · rw[hL]
       have h:=H6.out
       rw[(zoo _).2.1] at h
       exact h
     · rw[hS]
       exact H2.out.low HB6.out
end
end
end Go.Proofs.YthdbckbpldlkeaaGreat
