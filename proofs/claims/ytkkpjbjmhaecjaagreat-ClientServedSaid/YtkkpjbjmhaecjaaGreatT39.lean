/- None -/
import Derived.Test.YtkkpjbjmhaecjaaGreatT35
namespace Go.Proofs.YtkkpjbjmhaecjaaGreat
set_option linter.all false
set_option maxRecDepth 100000
set_option maxHeartbeats 8000000
section
open Go.RowKit Go.Maps
section
variable {w w':World} {G:Nat→Prop} {p ps pb pd:Nat} {X:SdoS}
theorem zuv (X:SdoS)(c:Nat)(h:c≤4294967295):AllOk (sdAL X c):=by
 unfold sdAL;refine zon ?_ ?_
 · unfold answerL;split
   · split
     · exact zom (zoo _ _ _ h)
     · exact zom (zop (Nat.zero_le _) rfl (Nat.zero_le _))
   · exact zol
 · unfold bAnswerL;split
   · split
     · exact zom (zoo _ _ _ h)
     · exact zom (zop (Nat.zero_le _) rfl (Nat.zero_le _))
   · exact zol
theorem zuw (h:DV w G p ps pb pd X)(code:Nat):Calls Tryz.prog 132 #[.pointer (some ⟨ps,0,none⟩),.int .u32 (code:Nat)] w (CallG w (fun w'=>DV w' G p ps pb pd { X with sg:=answerS X.sg }) (fun q=>q=ps) (answerL X.sg code)):=by
 obtain⟨A,n,c,hB⟩:=h.seg.blk_;refine (zlt ps pd X.sg code A n c w hB).mono ?_;rintro e w' ⟨h1,h2⟩;by_cases h3:X.sg.st=3
 · obtain⟨g,hg,rfl,hM,hB',ho⟩:=h2 h3;refine⟨_,_,_,[(none,0)],rfl,?_,?_,ho⟩
   · have hl:answerL X.sg code= [if code=0 then wellM X.sg else abM X.sg.ix X.sg.sub code]:=by
      unfold answerL;rw[if_pos h3];by_cases h0:code=0<;>simp[h0]
     rw[hl];exact znu hg hM (by rw[show (if code=0 then wellM X.sg else abM X.sg.ix X.sg.sub code).data= [] by split<;>rfl];exact zdv.nil _ _) (FIn.nil _)
   · rw[show answerS X.sg=segIdle X.sg by unfold answerS;rw[if_pos h3];rfl];exact h.seg_ (SV_.idle_ hB' rfl) ho
 · obtain⟨rfl,rfl⟩:=h1 h3;refine⟨none,0,0,[],rfl,?_,?_,zd0.refl _ _⟩
   · rw[show answerL X.sg code= [] by unfold answerL;rw[if_neg h3]];exact znt _ _ _
   · rw[show answerS X.sg=X.sg by unfold answerS;rw[if_neg h3]];exact h
theorem zux (h:DV w G p ps pb pd X)(code:Nat):Calls Tryz.prog 38 #[.pointer (some ⟨pb,0,none⟩),.int .u32 (code:Nat)] w (CallG w (fun w'=>DV w' G p ps pb pd { X with bk:=bAnswerS X.bk }) (fun q=>q=pb) (bAnswerL X.bk code)):=by
 obtain⟨A,n,c,hB⟩:=h.bkv.blk_;refine (zmb pb pd X.bk code A n c w hB).mono ?_;rintro e w' ⟨h1,h2⟩;by_cases h3:X.bk.st=3
 · obtain⟨g,hg,rfl,hM,hB',ho⟩:=h2 h3;refine⟨_,_,_,[(none,0)],rfl,?_,?_,ho⟩
   · have hl:bAnswerL X.bk code= [if code=0 then okM 18 0 0 false else abM X.bk.ix X.bk.sub code]:=by
      unfold bAnswerL;rw[if_pos h3];by_cases h0:code=0<;>simp[h0]
     rw[hl];exact znu hg hM (by rw[show (if code=0 then okM 18 0 0 false else abM X.bk.ix X.bk.sub code).data= [] by split<;>rfl];exact zdv.nil _ _) (FIn.nil _)
   · rw[show bAnswerS X.bk=blkIdle X.bk by unfold bAnswerS;rw[if_pos h3];rfl];exact h.bk_ (BV_.idle_ hB' rfl) ho
 · obtain⟨rfl,rfl⟩:=h1 h3;refine⟨none,0,0,[],rfl,?_,?_,zd0.refl _ _⟩
   · rw[show bAnswerL X.bk code= [] by unfold bAnswerL;rw[if_neg h3]];exact znt _ _ _
   · rw[show bAnswerS X.bk=X.bk by unfold bAnswerS;rw[if_neg h3]];exact h
end
end
section
open Go.RowKit
section
variable {α:Type} {f: α→Option Addr×Nat→List Value} {k:Nat} {e:TypeId} {dat: α→List UInt8} {w w':World} {F F2 G:Nat→Prop} {n c n2 c2:Nat} {A A2:Option Addr} {L L2:List α} {ds ds2:List (Option Addr×Nat)}
theorem zuy:∀(L:List α) (ds:List (Option Addr×Nat)) (L2:List α) (ds2:List (Option Addr×Nat)),ds.length=L.length→cellsG f (L ++ L2) (ds ++ ds2)=cellsG f L ds ++ cellsG f L2 ds2:=by
 intro L
 induction L with
 | nil=>
   intro ds L2 ds2 h;obtain rfl:ds= []:=List.eq_nil_of_length_eq_zero h;simp[cellsG]
 | cons u L ih=>
   intro ds L2 ds2 h;cases ds with
   | nil=>simp at h
   | cons e ds=>simp only[List.cons_append,cellsG];rw[ih ds L2 ds2 (by simpa using h),List.append_assoc]
theorem zuz (hone:∀v d,∀u ∈ f v d,u.oneCell'=true):∀(L:List α) (ds:List (Option Addr×Nat)),∀u ∈ cellsG f L ds,u.oneCell'=true:=by
 intro L
 induction L with
 | nil=>intro ds u hu;cases ds<;>simp[cellsG] at hu
 | cons x L ih=>
   intro ds u hu;cases ds with
   | nil=>simp[cellsG] at hu
   | cons d ds=>
     rw[cellsG,List.mem_append] at hu;rcases hu with hu | hu
     · exact hone x d u hu
     · exact ih ds u hu
theorem zd8.cat (h:zd8 f k e dat w F A n c L ds)(h2:zd8 f k e dat w F2 A2 n2 c2 L2 ds2)(hne:5≠e){A':Option Addr}{c':Nat}(h1:Own w' 0 e k A' (n+n2) c' (cellsG f L ds ++ cellsG f L2 ds2))(hg:w.grownBy w' (Value.ownBlock (.slice A n c)))
 (h3:A'=A∨A'=some ⟨w.heap.size,0,none⟩) (hF:∀g,w.heap.size≤g→G g) (hFG:∀g,g < w.heap.size→F g→G g) (hFG2:∀g,g < w.heap.size→F2 g→G g):zd8 f k e dat w' G A' (n+n2) c' (L ++ L2) (ds ++ ds2):=by
 have keep:∀ {m:Nat} {dd:Option Addr×Nat} {l:List UInt8},zdv w 0 dd.1 m dd.2 l→zdv w' 0 dd.1 m dd.2 l:=fun hO=>⟨hO.hn,hO.own.grown hg (zd2 hO.own h.own hne)⟩
 refine⟨by rw[h.hn,h2.hn];simp,by simp[h.hd,h2.hd],by rw[zuy L ds L2 ds2 h.hd];exact h1,?_,?_⟩
 · intro g hg;rcases h3 with h3 | h3
   · have hA:=h3.symm.trans hg;exact hFG g (h.own.fin g hA).2 (h.inF g hA)
   · rw[h3] at hg;injection hg with hg
     injection hg with hg
     subst hg;exact hF _ (Nat.le_refl _)
 · intro j u d' hu hd';rcases Nat.lt_or_ge j L.length with hj | hj
   · rw[List.getElem?_append_left hj] at hu;rw[List.getElem?_append_left (by rw[h.hd];exact hj)] at hd'
     have:=h.data j u d' hu hd'
     exact⟨keep this.1,fun g hg=>hFG g (this.1.own.fin g hg).2 (this.2 g hg)⟩
   · rw[List.getElem?_append_right hj] at hu;rw[List.getElem?_append_right (by rw[h.hd];exact hj),h.hd] at hd'
     have:=h2.data _ u d' hu hd'
     exact⟨keep this.1,fun g hg=>hFG2 g (this.1.own.fin g hg).2 (this.2 g hg)⟩
end
theorem zu0 {α:Type}{f: α→Option Addr×Nat→List Value}{k:Nat}{e:TypeId}{dat: α→List UInt8}{F F2 G:Nat→Prop}{ops:Array Oper}{rest:List Oper}{o:Oper}{a:Act}{Q:Exit→Act→World→Prop}(w:World)(hgd:o.guard=none)(s x:Operand)(ty:TypeId)
 (ho:o.op= .call { callee:= .builtin .append,args:=#[s,x],argTypes:=#[ty,ty] })
 (hf:∀v d,(f v d).length=k) (hone:∀v d,∀u ∈ f v d,u.oneCell'=true) (hne:5≠e) (i:TypeInfo) (z:Value) (bytes:Nat) (hu:Tryz.prog.underlying ty=some (.slice e)) (hi:Tryz.prog.info? e=some i) (hz:i.zero=some z) (hk:i.size=k) (hby:i.bytes=bytes) (hzs:z.cells.size=k) (hk0:0 < k) (hb4:bytes≤4096)
 (A:Option Addr) (n c:Nat) (L:List α) (ds:List (Option Addr×Nat)) (hs:a.eval s= .slice A n c) (hown:zd8 f k e dat w F A n c L ds)
 (A2:Option Addr) (n2 c2:Nat) (L2:List α) (ds2:List (Option Addr×Nat)) (hx:a.eval x= .slice A2 n2 c2) (hown2:zd8 f k e dat w F2 A2 n2 c2 L2 ds2)
 (hF:∀g,w.heap.size≤g→G g) (hFG:∀g,g < w.heap.size→F g→G g) (hFG2:∀g,g < w.heap.size→F2 g→G g)
 (hb:n+n2≤34359738)
 (h:∀A' c' w',zd8 f k e dat w' G A' (n+n2) c' (L ++ L2) (ds ++ ds2)→ w.grownBy w' (Value.ownBlock (.slice A n c))→ (A'=A∨A'=some ⟨w.heap.size,0,none⟩)→ wpList Tryz.prog ops Q rest (a.put o.dst (.slice A' (n+n2) c')) w'):wpList Tryz.prog ops Q (o :: rest) a w:=by
 refine zcy w hgd s x _ ho 0 e i _ k bytes hu hi hz hk hby hzs hk0 A n c _ hs hown.own A2 n2 c2 _ hx (by rw[zd6 hf L2 ds2 hown2.hd,hown2.hn]) hown2.own.sl (zuz hone L2 ds2) (by unfold maxLen;omega) ?_ (Nat.zero_le _) (n+n2) rfl _ rfl ?_
 · calc (n+n2) * bytes≤(n+n2) * 4096:=Nat.mul_le_mul_left _ hb4
    _≤_:=by omega
 · intro A' c' w' h1 h2 h3 _;exact h A' c' w' (hown.cat hown2 hne h1 h2 h3 hF hFG hFG2) h2 h3
end
section
open Go.RowKit Go.Maps
section
variable {w w':World} {G:Nat→Prop} {p ps pb pd:Nat} {X:SdoS}
theorem zu1 (S:SegS)(c:Nat):(answerL S c).length≤1:=by
 unfold answerL;split
 · split
   · exact Nat.le_refl _
   · exact Nat.le_refl _
 · exact Nat.zero_le _
theorem zu2 (S:BlkS)(c:Nat):(bAnswerL S c).length≤1:=by
 unfold bAnswerL;split
 · split
   · exact Nat.le_refl _
   · exact Nat.le_refl _
 · exact Nat.zero_le _
theorem MsG.keep_ {w w':World}{N:Nat}{Y:Nat→Prop}{As:Option Addr}{ns cs:Nat}{l:List Ms}{ds:List (Option Addr×Nat)}(h:MsG w N Y As ns cs l ds)(hk:∀g,N≤g→g < w.heap.size→w'.heap[g]? =w.heap[g]?):MsG w' N Y As ns cs l ds:=⟨h.1.keep hk,h.2⟩
theorem zu3 {ds:List (Option Addr×Nat)}(h:∀d ∈ ds,FIn (fun _=>False) d.1):zgw ds:=by
 unfold zgw
 induction ds with
 | nil=>exact List.Pairwise.nil
 | cons d ds ih=>exact List.Pairwise.cons (fun b _ g hg=>(h d (by simp) g hg).elim) (ih (fun x hx=>h x (by simp[hx])))
theorem DV.mono {H:Nat→Prop}(h:DV w G p ps pb pd X)(hG:∀q,q < w.heap.size→G q→H q)(hn: ¬H p∧ ¬H ps∧ ¬H pb):DV w H p ps pb pd X:=
 ⟨h.blk,h.seg.kept (fun _ _ _=>rfl) (Nat.le_refl _) hG,h.bkv.keep (fun _ _ _=>rfl) (Nat.le_refl _) hG,h.ne,hn⟩
theorem zu4 (h0:DV w G p ps pb pd X)(code:Nat)(hc:code≤4294967295):Calls Tryz.prog 69 #[.pointer (some ⟨p,0,none⟩),.int .u32 (code:Nat)] w (CallF w X.nout (fun w'=>DV w' G p ps pb pd (sdAS X)) (fun q=>q=ps∨q=pb) (sdAL X code)):=by
 obtain⟨G',hG'⟩:∃G':Nat→Prop,G'=fun q=>G q∧q < w.heap.size:=⟨_,rfl⟩
 have h:DV w G' p ps pb pd X:=by rw[hG'];exact h0.step (Below.refl _ _)
 have HG:=zak (And.intro (fun q (h:G' q)=> show G q∧q < w.heap.size by rw[hG'] at h;exact h) h0.ng);clear h0 hG';obtain⟨P,hP⟩:∃P,P=CallF w X.nout (fun w'=>DV w' G p ps pb pd (sdAS X)) (fun q=>q=ps∨q=pb) (sdAL X code):=⟨_,rfl⟩;rw[←hP];have HP:=zak hP;have HD:=zak h;have HOK:=zak (zuv X code hc);have zp:=h.lt;have c0:w.cell? ⟨p,0,none⟩=some (.pointer (some ⟨ps,0,none⟩)):=h.blk.cell 0 rfl;obtain⟨i0,hi0,hz0,hz1,hz2⟩:=info_parts zgv;have HA:=zak (zuw h code);have HNE:=zak h.ne;clear hP h;go_enter Tryz.func69,Tryz.ntmps69
 go_wp2_with fail
 refine HA.out.mono ?_;rintro e w5 ⟨As,ns,cs,ds5,rfl,h1,h2,h3⟩;have c1:w5.cell? ⟨p,1,none⟩=some (.pointer (some ⟨pb,0,none⟩)):=h2.blk.cell 1 rfl;have zp5:=h2.lt;have HB:=zak (zux h2 code);have H1:=zak h1;have H3:=zak h3;have HN1:=zak (show ns≤1 from by rw[h1.1.1.hn];exact zu1 _ _);have HZ:=zak zp;clear h1 h2 h3 HA HD zp c0;go_wp2_with fail
 refine HB.out.mono ?_;rintro e w6 ⟨As6,ns6,cs6,ds6,rfl,h4,h5,h6⟩;have HR5:=zak (MsG.keep_ H1.out (w':=w6) (fun g hg hlt=>h6.block g hlt (fun e=>by have:=HZ.out;have:=H3.out.size;subst e;omega)));have HR6:=zak h4;have H5:=zak h5;have HO6:=zak ((H3.out.mono (G:=fun q=>q=ps∨q=pb) (fun q _ h=> .inl h)).trans (h6.mono (G:=fun q=>q=ps∨q=pb) (fun q _ h=> .inr h)) (fun _ _ h=>h));have HN6:=zak (show ns6≤1 from by rw[h4.1.1.hn];exact zu2 _ _);have hnn:ns+ns6≤34359738:=by have:=HN1.out;have:=HN6.out;omega
 have HS6:=zak h6.size;have HS5:=zak H3.out.size;clear h4 h5 h6 HB H1;go_wp2_with (at_builtin;refine zu0 (G:=fun g=>w.heap.size≤g) _ rfl _ _ 91 rfl zgt zgu (by decide) i0 _ 96 Tryz.underlying91 hi0 hz0 hz1 hz2 rfl (by omega) (by omega) As ns cs _ _ rfl HR5.out.1.1 As6 ns6 cs6 _ _ rfl HR6.out.1.1 (fun g h=>by have:=HS6.out;have:=HS5.out;omega) (fun g _ h=>h) (fun g _ h=>by have:=HS5.out;omega) hnn ?_;intro A7 c7 w7 hO7 hg7 hr7)
 have hO:zd0 (fun g=>w.heap.size≤g) w6 w7:=zd0.of_grown (F:=fun g=>w.heap.size≤g) hg7 (fun g e=>zha HR5.out.1.1 e);have hD7:DV w7 G' p ps pb pd (sdAS X):=((H5.out.keep (fun q hq hl=>hO.block q hl (by
  have:=HZ.out
  rcases hq with rfl | rfl | rfl | hq
  · omega
  · omega
  · omega
  · have:=(HG.out.1 q hq).2;omega)) hO.size).mono (fun q _ h=>h.1) H5.out.ng)
 have hA7:∀d ∈ ds5 ++ ds6,FIn (fun _=>False) d.1:=by
  intro d hd;rcases List.mem_append.1 hd with h | h
  · exact HR5.out.2 d h
  · exact HR6.out.2 d h
 have hM7:MsG w7 w.heap.size (fun _=>False) A7 (ns+ns6) c7 (sdAL X code) (ds5 ++ ds6):=⟨⟨hO7,zu3 hA7⟩,hA7⟩;have HSD:=zak (zpa hD7 hM7 HOK.out (by rw[←hM7.1.1.hn];have:=HN1.out;have:=HN6.out;omega));have HO7:=zak ((HO6.out.mono (G:=fun q=>(q=ps∨q=pb)∨ w.heap.size≤q) (fun q _ h=> .inl h)).trans (hO.mono (G:=fun q=>(q=ps∨q=pb)∨ w.heap.size≤q) (fun q _ h=> .inr h)) (fun _ _ h=>h));have HD7:=zak (hD7.mono (H:=G) (fun q _ h=>(HG.out.1 q h).1) HG.out.2);have HS7:=zak hO.size;clear hO hD7 hA7 hM7 hO7 hg7 hr7 HR5 HR6 H5 HO6;try dsimp only
 go_wp2_with fail
 refine HSD.out.mono ?_;rintro e w8 ⟨A8,n8,c8,ds8,rfl,h8,hb8⟩;have HF:Hid (P (.returned (.slice A8 n8 c8)) w8):=zak (by
  rw[HP.out];refine⟨w7.heap.size,A8,n8,c8,ds8,rfl,?_,h8,HD7.out.low hb8,?_⟩
  · have:=HS5.out;have:=HS6.out;have:=HS7.out;omega
  · exact ((HO7.out.step hb8).mono (fun q hq h=>h.elim id (fun h=>by omega))))
 clear h8 hb8;try dsimp only
 go_wp2_with fail
 exact HF.out
end
end
section
section
open Go.RowKit
section
variable {F:Nat→Prop} {p n cl cv:Nat} {Al Av:Option Addr} {L:List Ent} {V:List (List UInt8)} {ds es:List (Option Addr×Nat)}
end
end
section
open Go.RowKit
section
variable {F:Nat→Prop} {p n cl cv:Nat} {Al Av:Option Addr} {L:List Ent} {V:List (List UInt8)} {ds es:List (Option Addr×Nat)}
end
end
end
section
section
open Go.RowKit
def ValuesR (X:List SV) (w:World) (e:Ending) (w':World):Prop:=
 ∃A n c ds,e= .returned (.slice A n c)∧ OwnSV w' (fun g=>w.heap.size≤g) A n c X ds∧zkk ds∧Below w.heap.size w w'
end
section
open Go.RowKit
section
variable {F:Nat→Prop} {p n cl cv:Nat} {Av:Option Addr} {L:List Ent} {V:List (List UInt8)} {ds es:List (Option Addr×Nat)} {gl:Nat}
theorem zu5 (w:World)(hD:DB 100 w F p (some ⟨gl,0,none⟩) n cl Av cv L V ds es)(hn:n≤1000) :
 Calls Tryz.prog 17 #[.pointer (some ⟨p,0,none⟩)] w (ValuesR (svL L V) w):=by
 have HD:=zak hD;have HN:=zak hD.ents.hn;have HNV:=zak hD.vals.hn;have HLV:=zak hD.lenV;have hB:=hD.blk;have zp:=hB.lt;clear hD;obtain⟨ej,ek⟩:=zc7 hB;have fD:=hB.frozen;go_enter Tryz.func17,Tryz.ntmps17
 go_wp2_with fail
 refine (zhl _ hB).mono ?_;rintro e w1 ⟨rfl,rfl⟩;go_wp2_with fail
 go_loopw [3,7] (fun o i wr=> ∃k A' c' ds',k≤n∧i= .int .i64 (k:Nat)∧ o= .slice A' k c'∧Hid (OwnSV wr (fun g=>w.heap.size≤g) A' k c' ((svL L V).take k) ds'∧zkk ds')∧ Below w.heap.size w wr) (fun _ i _=>n - (intOf i).toNat)
 case atStart=>exact⟨0,none,0,[],by omega,rfl,rfl,zak ⟨zd8.nil _ _,zkk.nil⟩,Below.refl _ _⟩
 case round=>
  obtain⟨k,A',c',ds',hk,rfl,rfl,HO,hbr⟩:=hrel;by_cases hlt:k < n
  · obtain⟨E,hE⟩:∃E,L[k]? =some E:=⟨L[k]'(by rw[←HN.out];exact hlt),List.getElem?_eq_getElem _⟩;obtain⟨v,hv⟩:∃v,V[k]? =some v:=⟨V[k]'(by rw[←HNV.out];exact hlt),List.getElem?_eq_getElem _⟩;obtain⟨g,d,hA,zg,_,_,_,c0,c1,_,_,_,_,_,_,_,_,_⟩:=HD.out.ent hE;injection hA with hA
    injection hA with hA
    subst hA;obtain⟨gv,dv,hAv,zv,_,hOv,hfit,cv0,_,_⟩:=HD.out.val hv;subst hAv;have HT:=zak (zko (zkn hE hv));have HSv:=zak (hOv.sl.below hbr);have HF:=zak hfit;obtain⟨i1,i2,i3⟩:=zdl hlt;clear hE hv hOv hfit;go_wp2_with fail
    refine wp_region_held_drew (S:=(fun w'=>(∀qA:Addr,qA.block < (w).heap.size→w'.cell? qA=(w).cell? qA)∧ Below (w).heap.size (w) w')) (by kernel_rfl) ?hS1 (fun hHeld=>?rest1)
    case hS1=>exact kSn
    case' rest1=>skip
    iterate 24 (refine tkN ?_;try simp only[PqL,Act.put])
    refine kRd 24 (fun K hK=>?_)
    go_simp
    refine (zhj dv.1 v.length dv.2 v _ rfl HF.out HSv.out.drew).mono ?_;rintro e w2 ⟨A3,c3,rfl,hO3,hb3⟩;dsimp only;refine hK.out _ _ ?hS28 (fun hHeld=>?rest28)
    case hS28=>exact kSn
    case' rest28=>(clear hK K;try simp only[PqL,Act.put])
    refine tkH 25 ?_;try simp only[PqL,Act.put]
    refine kRd 26 (fun K hK=>?_)
    go_simp
    refine hK.out _ _ ?hS32 (fun hHeld=>?rest32)
    case hS32=>exact kSn
    case' rest32=>(clear hK K;try simp only[PqL,Act.put])
    have hb4:Below wr.heap.size wr w2:=⟨hb3.os,hb3.tape,hb3.output,hb3.size,hb3.block⟩;have hb5:=zc5 hb4 (.cells #[.int .i64 E.ix,.int .i64 E.sub,.slice A3 v.length c3] 46);have hz5:=hbr.size;have hz6:=hb4.size;refine kRd 27 (fun K hK=>?_);rw[if_pos (show Region.wanted _ _=true by kernel_rfl)];refine zkd (f:=svF) (k:=3) (e:=46) (dat:=SV.data) (F:=fun g=>w.heap.size≤g) _ _ 53 rfl zkh zki (by decide) 40 _ Tryz.underlying53 zkj rfl (by omega) (by omega) A' k c' ((svL L V).take k) ds' rfl (HO.out.1.below hb5) ⟨E.ix,E.sub,v⟩ (A3,c3) _ rfl (by exact (Blk.new _ _ _).sl) ((hO3.alloc _).mono (Nat.zero_le _)) (hO3.own.fin.mono (fun g h=>Nat.le_trans hz5 h.1)) (fun g h=>by simp at h;omega) (by omega) ?_
    intro A4 c4 w4 hO4 hg4 hr4;have hO4':=hO4;rw[←HT.out] at hO4';have hap:zkk (ds' ++ [(A3,c3)]):=HO.out.2.snoc (N:=wr.heap.size) HO.out.1.dlt (hO3.own.fin.mono (fun g h=>h.1));have HO4:=zak (And.intro hO4' hap);have hb7:Below w.heap.size w (w2.alloc (.cells #[.int .i64 E.ix,.int .i64 E.sub,.slice A3 v.length c3] 46)):=zc4 hb5 hbr;have hb6:Below w.heap.size w w4:=hb7.grown hg4 hb7.size (fun q hq=>by
     rcases HO.out.1.own.shape with ⟨h1,_⟩ | ⟨g',h1,_,_⟩
     · rw[h1] at hq;cases hq
     · have:=HO.out.1.inF g' h1
       rw[h1] at hq;simp[Value.ownBlock] at hq;omega)
    clear hO4 hO4' hap hb7 hO3;refine hK.out _ _ ?hS35 (fun hHeld=>?rest35)
    case hS35=>exact kSn
    case' rest35=>(clear hK K;try simp only[PqL,Act.put])
    refine tkH 28 ?_;try simp only[PqL,Act.put]
    refine wpAnyH_done (by kernel_rfl) ?_ _;have hEnd:=hHeld.2
    repeat (clear hHeld)
    go_wp2_with fail
    go_roundw
    case rel=>exact⟨k+1,A4,c4,_,by omega,by go_num,by go_num,HO4,hb6⟩
    case measure=>simp[intOf];omega
  · go_wp2_with fail
    go_ret
    have hkn:k=n:=by omega
    refine⟨_,_,_,ds',rfl,?_,HO.out.2,hbr⟩;have h1:=HO.out.1;rw[List.take_of_length_le (by rw[zkm _ _ HLV.out,hkn,HN.out];exact Nat.le_refl _)] at h1;exact h1
end
end
section
open Go.RowKit
section
variable {F:Nat→Prop} {p n cl cv:Nat} {Al Av:Option Addr} {L:List Ent} {V:List (List UInt8)} {ds es:List (Option Addr×Nat)}
end
end
end
section
open Go.RowKit
def lightE (E:Ent):Bool:=decide (E.df.length≤1000) && decide (E.nm.size≤1000)
def lightL (L:List Ent):Bool:=decide (L.length≤200) && L.all lightE
theorem zu8 {L:List Ent}(h:lightL L=true):∀E ∈ L,fitE E:=by
 intro E hE;simp only[lightL,Bool.and_eq_true,List.all_eq_true] at h
 have:=h.2 E hE
 simp only[lightE,Bool.and_eq_true,decide_eq_true_eq] at this;exact⟨by omega,by omega⟩
theorem zu9 {L:List Ent}(h:lightL L=true):L.length≤200:=by
 simp only[lightL,Bool.and_eq_true,decide_eq_true_eq] at h;exact h.1
theorem zva (A:Option Addr)(n c:Nat)(L:List Ent)(w:World)(hn:n=L.length)(hL:SlE w A L) :
 Calls Tryz.prog 7 #[.slice A n c] w fun e w'=>e= .returned (.bool (lightL L))∧ w=w':=by
 have HN:=zak hn;have HL:=zak hL;by_cases hbig:200 < n
 · have HR:Hid (lightL L=false):=zak (by simp[lightL];omega);clear hn hL;go_enter Tryz.func7,Tryz.ntmps7
   go_wp2_with fail
   go_ret
   exact⟨zau HR.out.symm,rfl⟩
 clear hn hL;go_enter Tryz.func7,Tryz.ntmps7
 go_wp2_with fail
 go_loopw [3] (fun i wr=> ∃k,k≤n∧i= .int .i64 (k:Nat)∧ Hid (∀E ∈ L.take k,lightE E=true)∧ w=wr) (fun i _=>n - (intOf i).toNat)
 case atStart=>exact⟨0,by omega,rfl,zak (by simp),rfl⟩
 case round=>
  obtain⟨k,hk,rfl,HA,rfl⟩:=hrel;by_cases hlt:k < n
  · obtain⟨E,hE⟩:∃E,L[k]? =some E:=⟨L[k]'(by rw[←HN.out];exact hlt),List.getElem?_eq_getElem _⟩;obtain⟨b,off,Aj,cj,rfl,⟨c0,c1,c2,c3,c4,c5,c6,c7,c8,c9,c10⟩,hcj,hsj⟩:=HL.out k E hE;have HT:=zak (zko hE);have HM:=zak (List.mem_of_getElem? hE);clear c0 c1 c3 c4 c5 c6 c7 c8 c9 hcj hsj hE;obtain⟨m,hm⟩:∃m,m=E.df.length:=⟨_,rfl⟩;rw[←hm] at c10;have HMM:=zak hm;clear hm;by_cases h1:1000 < m
    · have HR:Hid (lightL L=false):=zak (by
       have:L.all lightE=false:=by rw[List.all_eq_false];exact⟨E,HM.out,by simp[lightE,←HMM.out];omega⟩
       simp[lightL,this])
      go_wp2_with fail
      go_ret
      exact⟨zau HR.out.symm,rfl⟩
    by_cases h2:1000 < E.nm.size
    · have HR:Hid (lightL L=false):=zak (by
       have:L.all lightE=false:=by rw[List.all_eq_false];exact⟨E,HM.out,by simp[lightE];omega⟩
       simp[lightL,this])
      go_wp2_with fail
      go_ret
      exact⟨zau HR.out.symm,rfl⟩
    · have HR:Hid (∀D ∈ L.take (k+1),lightE D=true):=zak (by
       intro D hD;rw[HT.out,List.mem_append,List.mem_singleton] at hD;rcases hD with hD | rfl
       · exact HA.out D hD
       · simp[lightE,←HMM.out];omega)
      go_wp2_with fail
      go_roundw
      case rel=>exact⟨k+1,by omega,by go_num,HR,by trivial⟩
      case measure=>simp[intOf];omega
  · have HR:Hid (lightL L=true):=zak (by
     have h1:=HA.out;rw[List.take_of_length_le (by rw[←HN.out];omega)] at h1;simp only[lightL,Bool.and_eq_true,decide_eq_true_eq,List.all_eq_true];exact⟨by rw[←HN.out];omega,h1⟩)
    go_wp2_with fail
    go_ret
    exact⟨zau HR.out.symm,rfl⟩
end
section
open Go.RowKit
def ValsP (L:List Ent) (V:List (List UInt8)):Prop:= ∀(j:Nat) E v,L[j]? =some E→V[j]? =some v→valC E v=0
theorem zvb {E:Ent}(h:rightE E=0):valC E E.df=0:=by
 unfold rightE at h;unfold valC;split at h
 · omega
 split at h
 · omega
 split at h
 · omega
 split at h
 · omega
 split at h
 · omega
 split at h
 · omega
 · rename_i hh;simpa using hh
theorem zvc {L:List Ent}(h:∀E ∈ L,rightE E=0):ValsP L (L.map Ent.df):=by
 intro j E v hE hv;rw[List.getElem?_map,hE] at hv;simp at hv;subst hv;exact zvb (h E (List.mem_of_getElem? hE))
theorem zvd {L:List Ent}{ix sub:Int}{b:List UInt8}{any:Bool}(h:mayC L ix sub b any=0):valC (entK L (locK L ix sub)) b=0:=by
 unfold mayC at h;split at h
 · split at h
   · rename_i h1 h2;exact absurd h h2.2
   · exact h
 · rename_i h1;exact absurd h h1
theorem zve {L:List Ent}(hs:SortedE L){V:List (List UInt8)}(hV:V.length=L.length)(h:ValsP L V)(ix sub:Int)(b:List UInt8)(any:Bool):ValsP L (putV L V ix sub b any):=by
 intro j E v hE hv;rw[zcd hs hV hE] at hv;split at hv
 · rename_i hp;injection hv with hv
   subst hv;have h1:=zvd hp.2.2;rw[(zca hs hE ⟨hp.1,hp.2.1⟩).1,zb2 hE] at h1;exact h1
 · exact h j E v hE hv
end
section
open Go.RowKit Go.Maps
theorem zvf {L:List Ent}{V:List (List UInt8)}(h:ValsP L V)(hl:V.length=L.length):∀v ∈ V,v.length≤256:=by
 intro v hv;obtain⟨j,hj,rfl⟩:=List.getElem_of_mem hv;exact zrt (h j _ _ (List.getElem?_eq_getElem (by omega)) (List.getElem?_eq_getElem hj))
def DBx (W:World) (F:Nat→Prop) (pd:Nat) (L:List Ent) (V:List (List UInt8)):Prop:=
 ∃gl n cl Av cv ds es,n=L.length∧DB 100 W F pd (some ⟨gl,0,none⟩) n cl Av cv L V ds es
structure SKM (N p ps pb pd:Nat) (L:List Ent) (F G:Nat→Prop) (V:List (List UInt8)) (X:SdoS) (W:World):Prop where
 db:DBx W F pd L V
 dv:DV W G p ps pb pd X
 nF: ¬F p∧ ¬F ps∧ ¬F pb
 lo:N≤p∧N≤ps∧N≤pb
 lF:∀g,F g→N≤g∧g < W.heap.size
 lG:∀g,G g→g < W.heap.size∧ ¬F g
 so:SortedE L
 ll:L.length≤1000
 vp:ValsP L V
 vl:V.length=L.length
 wf:SdWf X
 nn:X.nin≠0
section
variable {N p ps pb pd:Nat} {L:List Ent} {F G:Nat→Prop} {V:List (List UInt8)} {X:SdoS} {W W':World}
theorem DBx.keep (h:DBx W F pd L V)(hk:∀g,F g→g < W.heap.size→W'.heap[g]? =W.heap[g]?):DBx W' F pd L V:=by
 obtain⟨gl,n,cl,Av,cv,ds,es,hn,hD⟩:=h;exact⟨gl,n,cl,Av,cv,ds,es,hn,hD.keep hk⟩
theorem SKM.hv (h:SKM N p ps pb pd L F G V X W):∀v ∈ V,v.length≤256:=zvf h.vp h.vl
theorem SKM.step (h:SKM N p ps pb pd L F G V X W)(hb:Below W.heap.size W W'):SKM N p ps pb pd L F G V X W':=
 { h with
  db:=h.db.keep (fun g _ hl=>hb.block g hl)
  dv:=h.dv.low hb
  lF:=fun g hg=>⟨(h.lF g hg).1,Nat.lt_of_lt_of_le (h.lF g hg).2 hb.size⟩
  lG:=fun g hg=>⟨Nat.lt_of_lt_of_le (h.lG g hg).1 hb.size,(h.lG g hg).2⟩ }
theorem SKM.call {G':Nat→Prop}{X':SdoS}(h:SKM N p ps pb pd L F G V X W)(ho:zd0 (fun q=>q=p∨q=ps∨q=pb) W W')(hd:DV W' G' p ps pb pd X')(hG:∀q,G' q→(G q∨W.heap.size≤q)∧ q < W'.heap.size)(hw:SdWf X')(hn:X'.nin≠0):SKM N p ps pb pd L F G' V X' W':=
 { h with
  db:=h.db.keep (fun g hg hl=>ho.block g hl (by
   rintro (rfl | rfl | rfl)
   · exact h.nF.1 hg
   · exact h.nF.2.1 hg
   · exact h.nF.2.2 hg))
  dv:=hd
  lF:=fun g hg=>⟨(h.lF g hg).1,Nat.lt_of_lt_of_le (h.lF g hg).2 ho.size⟩
  lG:=fun g hg=>⟨(hG g hg).2,fun hf=>by
   rcases (hG g hg).1 with h1 | h1
   · exact (h.lG g h1).2 hf
   · have:=(h.lF g hf).2;omega⟩
  wf:=hw
  nn:=hn }
theorem zvg (L:List Ent)(V:List (List UInt8))(X:SdoS)(f:Frm):(sdRS L V X f).nin=X.nin∧(sdRS L V X f).nout=X.nout:=by
 unfold sdRS;split
 · split
   · exact⟨(zo9 { X with left:=50 }).1,(zo9 { X with left:=50 }).2.1⟩
   · exact zps L V { X with left:=50 } _
 · exact⟨rfl,rfl⟩
def GiveK (N p ps pb pd:Nat) (L:List Ent) (F G:Nat→Prop) (V:List (List UInt8)) (X':SdoS) (id:Int) (l:List Ms) (W:World) (e:Ending) (W':World):Prop:=
 ∃N1 As ns cs ds,e= .returned (.slice As ns cs)∧ W.heap.size≤N1∧zg3 W' (fun g=>N1≤g) As ns cs (frmL id l) ds∧SKM N p ps pb pd L F G V X' W'∧zd0 (fun g=>g=p∨g=ps∨g=pb) W W'
theorem zvh (h:SKM N p ps pb pd L F G V X W)(code:Nat)(hc:code≤4294967295) :
 Calls Tryz.prog 69 #[.pointer (some ⟨p,0,none⟩),.int .u32 (code:Nat)] W (GiveK N p ps pb pd L F G V (sdAS X) X.nout (sdAL X code) W):=by
 refine (zu4 h.dv code hc).mono ?_;rintro e W' ⟨N1,As,ns,cs,ds,rfl,h1,h2,h3,h4⟩;have ho:zd0 (fun g=>g=p∨g=ps∨g=pb) W W':=h4.mono (fun q _ h=> .inr h);exact⟨N1,As,ns,cs,ds,rfl,h1,h2,h.call ho h3 (fun q hq=>⟨.inl hq,Nat.lt_of_lt_of_le (h.lG q hq).1 h4.size⟩) (zoi h.wf) h.nn,ho⟩
theorem zvi (h:SKM N p ps pb pd L F G V X W):Calls Tryz.prog 24 #[.pointer (some ⟨p,0,none⟩)] W fun e W'=>e= .returned (.bool (sdBusy X))∧ W=W':=znf h.dv
theorem zvj (h:SKM N p ps pb pd L F G V X W)(ix sub:Int)(A:Option Addr)(m c:Nat)(b:List UInt8)(hm:m=b.length)(hc:m≤c)(hl:m≤35184372088832)(hb:Sl W A (b.map bv)) :
 Calls Tryz.prog 50 #[.pointer (some ⟨pd,0,none⟩),.int .i64 ix,.int .i64 sub,.slice A m c] W fun e W'=>e= .returned (.int .u32 (mayC L ix sub b false))∧ SKM N p ps pb pd L (fun g=>(F g∨W.heap.size≤g)∧ g < W'.heap.size) G (putV L V ix sub b false) X W'∧zd0 F W W':=by
 obtain⟨gl,n,cl,Av,cv,ds,es,hn,hD⟩:=h.db;refine (zjg ix sub A m c b W hD h.so (by rw[hn];exact h.ll) hm hc hl hb).mono ?_;rintro e W' ⟨V',es',rfl,rfl,hD',ho⟩;have hz:=ho.size;have hlt:=h.dv.lt;refine⟨rfl,?_,ho⟩;have hk:∀q,¬F q→q < W.heap.size→W'.heap[q]? =W.heap[q]? :=fun q hq hl=>ho.block q hl hq
 exact { h with
  db:=⟨gl,n,cl,Av,cv,ds,es',hn,hD'.mono (fun g hg h=>⟨h,hg⟩)⟩
  dv:=(h.dv.keep (fun q hq hl=>hk q (by
   rcases hq with rfl | rfl | rfl | hq
   · exact h.nF.1
   · exact h.nF.2.1
   · exact h.nF.2.2
   · exact (h.lG q hq).2) hl) hz).mono (fun q _ hq=>hq.1) h.dv.ng
  nF:=⟨fun hf=>hf.1.elim h.nF.1 (fun hh=>by omega),fun hf=>hf.1.elim h.nF.2.1 (fun hh=>by omega),fun hf=>hf.1.elim h.nF.2.2 (fun hh=>by omega)⟩
  lF:=fun g hg=>⟨by
   rcases hg.1 with h1 | h1
   · exact (h.lF g h1).1
   · have:=h.lo.1;omega,hg.2⟩
  lG:=fun g hg=>⟨Nat.lt_of_lt_of_le (h.lG g hg).1 hz,fun hf=>hf.1.elim (h.lG g hg).2 (fun hh=>by have:=(h.lG g hg).1;omega)⟩
  vp:=zve h.so h.vl h.vp ix sub b false
  vl:=by rw[←h.vl];exact zb0 L V ix sub b false }
theorem zvk (h:SKM N p ps pb pd L F G V X W):Calls Tryz.prog 17 #[.pointer (some ⟨pd,0,none⟩)] W (ValuesR (svL L V) W):=by
 obtain⟨gl,n,cl,Av,cv,ds,es,hn,hD⟩:=h.db;exact zu5 W hD (by rw[hn];exact h.ll)
theorem zvl (h:SKM N p ps pb pd L F G V X W)(ix sub:Int):Calls Tryz.prog 32 #[.pointer (some ⟨pd,0,none⟩),.int .i64 ix,.int .i64 sub] W (GetR L V ix sub W):=by
 obtain⟨gl,n,cl,Av,cv,ds,es,hn,hD⟩:=h.db;exact zjb ix sub W hD h.so (by rw[hn];exact h.ll)
theorem zvm (h:SKM N p ps pb pd L F G V X W)(ix sub:Int)(A:Option Addr)(m c:Nat)(b:List UInt8)(hm:m=b.length)(hc:m≤c)(hl:m≤35184372088832)(hb:Sl W A (b.map bv)) :
 Calls Tryz.prog 28 #[.pointer (some ⟨pd,0,none⟩),.int .i64 ix,.int .i64 sub,.slice A m c] W fun e W'=>e= .returned (.int .u32 (mayC L ix sub b false))∧ Below W.heap.size W W':=by
 obtain⟨gl,n,cl,Av,cv,ds,es,hn,hD⟩:=h.db;exact zje ix sub A m c b W hD h.so (by rw[hn];exact h.ll) hm hc hl hb
theorem zvn {w:World}{gl n cl cv:Nat}{Av:Option Addr}{ds es:List (Option Addr×Nat)}(hn:n=L.length)(hD:DB 100 w (fun g=>N≤g) pd (some ⟨gl,0,none⟩) n cl Av cv L V ds es)(hs:SortedE L)(hl:L.length≤1000)(hvp:ValsP L V)(node:Int)(hnd:1≤node∧node≤127)(hNw:N≤w.heap.size) :
 Calls Tryz.prog 21 #[.pointer (some ⟨pd,0,none⟩),.int .i64 node] w fun e W=> ∃p ps pb,e= .returned (.tuple #[.pointer (some ⟨p,0,none⟩),.int .i64 0])∧ SKM N p ps pb pd L (fun g=>N≤g∧g < w.heap.size) (fun _=>False) V ⟨segZ,blkZ,1536+node,1408+node,0⟩ W∧Below w.heap.size w W:=by
 refine (zo6 pd node hnd w).mono ?_;rintro e W ⟨p,ps,pb,rfl,h1,h2,h3,hV,hb⟩;have hD':=hD.mono (G:=fun g=>N≤g∧g < w.heap.size) (fun g h1 h2=>⟨h2,h1⟩);refine⟨p,ps,pb,rfl,⟨⟨gl,n,cl,Av,cv,ds,es,hn,hD'.below hb⟩,hV,⟨by omega,by omega,by omega⟩,⟨by omega,by omega,by omega⟩,fun g hg=>⟨hg.1,Nat.lt_of_lt_of_le hg.2 hb.size⟩,fun g hg=>hg.elim,hs,hl,hvp,hD.lenV,zoj _ _,?_⟩,hb⟩;show (1536:Int)+node≠0;omega
end
end
end Go.Proofs.YtkkpjbjmhaecjaaGreat
