/- None -/
import Derived.Test.YthdbckbpldlkeaaQ34
namespace Go.Proofs.Ythdbckbpldlkeaa
set_option linter.unusedVariables false
set_option linter.unusedSimpArgs false
set_option linter.unnecessarySimpa false
section
open Go.RowKit Go.Maps
set_option maxRecDepth 100000
set_option maxHeartbeats 8000000
theorem zmk:(Try.prog.info? 72).map (fun i=>(i.zero,i.size,i.bytes))=some (some (.agg #[.int .i64 0,.int .i64 0,.int .i64 0,.bool false,.bool false,.bool false,.bool false,.int .u32 0,.int .u32 0,.slice none 0 0,.int .i64 0,.int .i64 0,.int .i64 0,.int .u16 0]),14,96):= by kernel_rfl
abbrev OwnMr (w:World) (F:Nat→Prop) (A:Option Addr) (n c:Nat) (L:List Ms) (ds:List (Option Addr×Nat)):Prop:=zcj msF 14 72 Ms.data w F A n c L ds
theorem zml {w:World} {F:Nat→Prop} {A:Option Addr} {n c:Nat} {L:List Ms} {ds:List (Option Addr×Nat)} (h:OwnMr w F A n c L ds):SlM w A L:=by
 intro j M hM
 obtain⟨d,hd,hO,_⟩:= h.elem hM
 obtain⟨g,hA,_,hc⟩:= h.cells ze6 hM hd (by omega)
 refine⟨g,0,d.1,d.2,hA,?_,hO.sl⟩
 simp only[Nat.zero_add]
 exact⟨hc 0 _ rfl,hc 1 _ rfl,hc 2 _ rfl,hc 3 _ rfl,hc 4 _ rfl,hc 5 _ rfl,hc 6 _ rfl,hc 7 _ rfl,hc 8 _ rfl,hc 9 _ rfl,hc 10 _ rfl,hc 11 _ rfl,hc 12 _ rfl,hc 13 _ rfl⟩
theorem zmm {α:Type} {f: α→Option Addr×Nat→List Value} {k:Nat} {e:TypeId} {dat: α→List UInt8} {F:Nat→Prop} {o:Oper} {a:Act} {K:Act→World→Prop} {Q:Exit→Act→World→Prop} {w:World} (s x:Operand) (ty:TypeId)
 (ho:o.op= .call { callee:= .builtin .append,args:= #[s,x],argTypes:= #[ty,ty] })
 (hf:∀ v d,(f v d).length=k) (hone:∀ v d,∀ u ∈ f v d,u.oneCell'=true) (hne:5≠e) (bytes:Nat) (z:Value) (hu:Try.prog.underlying ty=some (.slice e)) (hi:(Try.prog.info? e).map (fun i=>(i.zero,i.size,i.bytes))=some (some z,k,bytes)) (hzs:z.cells.size=k) (hk0:0 < k) (hb4:bytes≤4096)
 (A:Option Addr) (n c:Nat) (L:List α) (ds:List (Option Addr×Nat)) (hs:a.eval s= .slice A n c) (hown:zcj f k e dat w F A n c L ds)
 (v: α) (d:Option Addr×Nat) (A2:Option Addr) (hx:a.eval x= .slice A2 1 1)
 (hr:Sl w A2 (f v d)) (hv:zb7 w 0 d.1 (dat v).length d.2 (dat v)) (hvF:FIn F d.1) (hF:∀ g,w.heap.size≤g→F g)
 (hb:n≤34359738)
 (h:∀ A' c' w',zcj f k e dat w' F A' (n+1) c' (L ++ [v]) (ds ++ [d])→ w.grownBy w' (Value.ownBlock (.slice A n c))→ (A'=A∨A'=some ⟨w.heap.size,0,none⟩)→ K (a.put o.dst (.slice A' (n+1) c')) w'):Oper.wp Try.prog o a w K Q:=by
 obtain⟨i0,hi0,hz0,hz1,hz2⟩:= info_parts hi
 obtain⟨A',c',w',hr',h2,h3,h4⟩:= zbf (P:=Try.prog) w 0 ty o.type e i0 _ k bytes hu hi0 hz0 hz1 hz2 hzs hk0 A n c _ hown.own A2 1 1 _ (by rw[hf];omega) hr (hone v d) (by unfold maxLen;omega) (by
  calc (n+1) * bytes≤(n+1) * 4096:=Nat.mul_le_mul_left _ hb4
   _≤_:=by omega) (Nat.zero_le _)
 unfold Oper.wp execOp
 simp only[ho,resolve,invoke,builtin,Sem.run_bind,Sem.run_pure,Result.andThen_ok,List.map_toArray,List.map_cons,List.map_nil,hs,hx,hr']
 exact h A' c' w' (hown.snoc hne h2 h3 h4 hF hv hvF) h3 h4
def RowR (W2:World) (b:List UInt8) (r tot a:Nat) (vl vi:Value) (wr:World):Prop:=
 ∃ (k:Nat) (A':Option Addr) (c':Nat) (ds:List (Option Addr×Nat)),vi= .int .i64 ((k:Int)+1)∧ vl= .slice A' k c'∧k≤r∧OwnMr wr (fun g=>W2.heap.size≤g) A' k c' (crowT tot a b k) ds∧Below W2.heap.size W2 wr
section
variable {w0:World} {G:Nat→Prop} {p:Nat} {ks:List KB} {rs:List RB}
theorem zmn (T:RCli) (R:RR) (most:Int) (W:World) (h:RM w0 G p (rclL T R) ks rs W) (hnd:1≤T.nd∧T.nd≤127) (hb:⟨R.A,R.n,R.c,T.b⟩ ∈ rs) (hd:⟨R.A2,R.n2,R.c2,T.data⟩ ∈ rs) (hl:T.b.length≤100000) (ha:0≤T.ha∧T.ha≤100000) (hm:0≤most∧most≤1000) :
 Calls Try.prog 64 #[.pointer (some ⟨p,0,none⟩),.int .i64 most] W (zli w0 G p (rRowS T most) (rRowL T most)):= by
 have hnr:R.n=T.b.length:=h.rn hb
 have hrc:R.n≤R.c:=h.rc hb
 have HNR:=zak hnr
 have HND:=zak hnd
 have HBB:=zak hb
 have HDD:=zak hd
 have hb1:R.n≤100000:=by omega
 obtain⟨tot,htot⟩:∃ tot,tot=btotal T.b:=⟨_,rfl⟩
 have HT:=zak htot
 have ht1:tot≤100000:=by rw[htot];unfold btotal;omega
 obtain⟨a,haa⟩:∃ a:Nat,T.ha=(a:Int):= ⟨T.ha.toNat,by omega⟩
 have ha1:a≤100000:=by omega
 obtain⟨r,hr⟩:∃ r:Nat,(r:Int)=max 0 (min most ((tot:Int) - (a:Int))):= ⟨(max 0 (min most ((tot:Int) - (a:Int)))).toNat,by omega⟩
 have hr1:r≤1000:=by omega
 have HRI:=zak hr
 obtain⟨P,hP⟩:∃ P,P=zli w0 G p (rRowS T most) (rRowL T most):= ⟨_,rfl⟩
 have HP:Hid (P=zli w0 G p { T with ro:=(r:Int),wk:=17 } (rSend T (crowT tot a T.b r))):= zak (by
  have hrow:rRowN T most=(r:Int):= by unfold rRowN;rw[haa,← htot,hr]
  rw[hP];unfold rRowS rRowL;rw[hrow,← htot,haa];rfl)
 rw[← hP]
 have z:=h.lt
 have c12:W.cell? ⟨p,12,none⟩=some (.int .i64 (a:Int)):= by rw[← haa];exact h.blk.cell 12 rfl
 have c4:W.cell? ⟨p,4,none⟩=some (.slice R.A R.n R.c):= h.blk.cell 4 rfl
 have HA:=zak haa
 have HC:=zak h
 clear h hnd hb hd hP hnr htot hr ha haa hl
 go_enter Try.func64,Try.ntmps64
 go_wp2_with fail
 go_loopw [5,6,7] (fun vl vi _ wr=>RowR W T.b r tot a vl vi wr) (fun _ vi _ _=>r - (intOf vi - 1).toNat)
 case atStart=>exact⟨0,none,0,[],rfl,rfl,Nat.zero_le _,zcj.nil _ _,Below.refl _ _⟩
 case round=>
  obtain⟨k,A',c',ds,rfl,rfl,hk,hOM,hbr⟩:= hrel
  have HOM:=zak hOM
  have HBR:=zak hbr
  have HCr:=zak (HC.out.step hbr)
  have zr:=HCr.out.lt
  have hzr:=hbr.size
  have d12:wr.cell? ⟨p,12,none⟩=some (.int .i64 (a:Int)):= by rw[← HA.out];exact HCr.out.blk.cell 12 rfl
  obtain⟨j,hj⟩:∃ j:Int,j=(k:Int)+1:=⟨_,rfl⟩
  have HJ:=zak hj
  have hj1:1≤j∧j≤1001:=by omega
  obtain⟨s,hs⟩:∃ s:Int,s=(a:Int)+j:=⟨_,rfl⟩
  have hs1:1≤s∧s≤101001:=by omega
  have HS:=zak hs
  have hsw:IntKind.i64.wrap ((a:Int)+j)=s:=by rw[← hs];unfold IntKind.wrap;simp[IntKind.signed,IntKind.bits];omega
  have hsj:=hs.symm
  rw[← hj]
  clear hOM hs
  by_cases hlt:k < r
  · have hjm:j≤most:=by have:=HRI.out;omega
    have hst:s≤(tot:Int):= by have:=HRI.out;have:=HS.out;omega
    obtain⟨kk,hkk⟩:∃ kk:Nat,kk=a+k:=⟨_,rfl⟩
    have hsk:s - 1=(kk:Int):= by have:=HS.out;omega
    have hkb:kk≤101000:=by omega
    have hws:IntKind.i64.wrap s=s:=by unfold IntKind.wrap;simp[IntKind.signed,IntKind.bits];omega
    have hwk:IntKind.i64.wrap (kk:Int)=(kk:Int):= by unfold IntKind.wrap;simp[IntKind.signed,IntKind.bits];omega
    obtain⟨mm,hmm⟩:∃ mm:Nat,mm=7 * kk:=⟨_,rfl⟩
    have h7m:7 * (kk:Int)=(mm:Int):= by omega
    have hwm:IntKind.i64.wrap (mm:Int)=(mm:Int):= by unfold IntKind.wrap;simp[IntKind.signed,IntKind.bits];omega
    have h7k:mm≤R.n:=by
     have h1:=HT.out
     have h2:=HNR.out
     have:=HS.out
     unfold btotal at h1
     omega
    have hcut:=fun W=>zcb R.A R.n R.c mm ((mm:Nat):Int) .i64 rfl h7k hrc W
    have HEE:Hid ((T.b.drop mm).take 7 ++ (List.replicate 7 0).drop (R.n - mm)=bpiece T.b kk):= zak (by
     unfold bpiece
     rw[List.drop_replicate,HNR.out,hmm])
    obtain⟨Am,hAm⟩:∃ Am,Am=cutA R.A R.c mm 1:=⟨_,rfl⟩
    have HAM:=zak hAm
    rw[← hAm] at hcut
    have HDL:Hid (R.n - mm=(T.b.drop mm).length):= zak (by rw[List.length_drop,← HNR.out])
    have HKK:=zak hkk
    clear hj hkk hmm hAm
    go_upto_region 3 with fail
    refine wp_region_held_drew (S:=(fun w'=>(∀ qA:Addr,qA.block < (W).heap.size→w'.cell? qA=(W).cell? qA)∧ Below (W).heap.size (W) w')) (by kernel_rfl) ?hS1 (fun hHeld=>?rest1)
    case hS1=>((try dsimp only);(((try go_split_ands);refine zbn ?_;all_goals exact bl)))
    case' rest1=>skip
    iterate 11 (refine tkN ?_;try simp only[PqL,Act.put])
    refine wpAnyH_ready (rs:= [11]) (by kernel_rfl) (by simp) ?_
    refine AllReadyH.cons (o:=_) rfl (fun K hK=>?_) .nil
    go_simp
    refine (zmg (p:=p) _ R.A R.n R.c T.b (HCr.out.drew.blk.cell 4 rfl) HNR.out (by omega)).mono ?_
    rintro e w2 ⟨rfl,hw⟩
    subst hw
    rw[← HT.out]
    refine hK.out _ _ ?hS15 (fun hHeld=>?rest15)
    case hS15=>((try dsimp only);(((try go_split_ands);refine zbn ?_;all_goals exact bl)))
    case' rest15=>(clear hK K;try simp only[PqL,Act.put])
    refine tkH 12 ?_
    try simp only[PqL,Act.put]
    refine tkH 13 ?_
    try simp only[PqL,Act.put]
    refine wpAnyH_done (by kernel_rfl) ?_ _
    have hEnd:=hHeld.2
    repeat (clear hHeld)
    go_upto_region 5 with fail
    refine zcn (P:=fun W2=>Below wr.heap.size wr W2) (by have hb:=Below.refl wr.heap.size wr;exact bl) (fun wx hx=>?_)
    have HCx:=zak (HCr.out.step hx)
    have HOMx:=zak (HOM.out.below hx)
    have HBRx:=zak (zbo hx hbr)
    have hzx:=hx.size
    clear hx hEnd HCr HOM hbr HBR
    go_upto_region 6 with (at_make;refine zb9 _ rfl _ _ rfl .i64 .i64 7 7 7 7 rfl rfl rfl rfl (Nat.le_refl _) (by omega) wx.heap.size rfl ?_;intro w6 hO6 hz6 hb6;have HO6:=zak hO6;clear hO6)
    have HC6:=zak (HCx.out.step hb6)
    have HM6:=zak (HOMx.out.below hb6)
    have hbl6:=zbo hb6 HBRx.out
    have HB6:=zak hb6
    have zp6:=HC6.out.lt
    have HSd:Hid (Sl w6 Am ((T.b.drop mm).map bv)):= zak (by
     rw[HAM.out]
     have h2:=(HC6.out.sl HBB.out).cutA (k:=mm) (c:=R.c) (s:=1) (by simp;have:=HNR.out;omega) (by omega)
     rw[Nat.mul_one,← List.map_drop] at h2
     exact h2)
    clear hb6
    refine wp_region_held_drew (S:=(fun w'=>(∀ qA:Addr,qA.block < (W).heap.size→w'.cell? qA=(W).cell? qA)∧ Below (W).heap.size (W) w')) (by kernel_rfl) ?hS19 (fun hHeld=>?rest19)
    case hS19=>((try dsimp only);(((try go_split_ands);refine zbn ?_;all_goals exact bl)))
    case' rest19=>skip
    iterate 14 (refine tkN ?_;try simp only[PqL,Act.put])
    refine wpAnyH_ready (rs:= [14]) (by kernel_rfl) (by simp) ?_
    refine AllReadyH.cons (o:=_) rfl (fun K hK=>?_) .nil
    rw[if_pos (show Region.wanted _ _=true by kernel_rfl)]
    refine ze5 _ _ rfl wx.heap.size _ 7 _ rfl HO6.out.drew Am (R.n - mm) (R.c - mm) (T.b.drop mm) rfl HDL.out HSd.out (bpiece T.b kk) HEE.out ?_
    intro w7 hO7 hg7 hb7
    have hb7':Below wx.heap.size w6 w7:=(zb3 (Below.refl _ _)).trans hb7
    have hbl7:Below W.heap.size W w7:=hbl6.trans (hb7'.mono (Nat.le_trans hzr hzx))
    have HO7:=zak hO7
    clear hO7 hg7 hb7
    refine hK.out _ _ ?hS36 (fun hHeld=>?rest36)
    case hS36=>((try dsimp only);(((try go_split_ands);refine zbn ?_;all_goals exact bl)))
    case' rest36=>(clear hK K;try simp only[PqL,Act.put])
    refine wpAnyH_done (by kernel_rfl) ?_ _
    have hEnd:=hHeld.2
    repeat (clear hHeld)
    clear hEnd
    obtain⟨dd,hdd⟩:∃ dd,dd=bpiece T.b kk:=⟨_,rfl⟩
    have hdl:dd.length=7:=by rw[hdd];unfold bpiece;simp only[List.length_append,List.length_take,List.length_drop,List.length_replicate];omega
    obtain⟨la,hla⟩:∃ la,la=decide ((a:Int)+(k:Int)+1=(tot:Int)):= ⟨_,rfl⟩
    have hlb:(s == (tot:Int))=la:=by
     have e1:s=(a:Int)+(k:Int)+1:=by have h1:=HS.out;have h2:=HJ.out;omega
     rw[hla,e1]
     by_cases hx:(a:Int)+(k:Int)+1=(tot:Int)
     · simp[hx]
     · simp[hx]
    have HM7:=zak (((HOMx.out.mono (G:=fun g=>W.heap.size≤g∧g < wx.heap.size) (fun g h1 h2=>⟨h2,h1⟩)).keep (w':=w6) (fun g hg _=>HB6.out.block g hg.2)).keep (w':=w7) (fun g hg _=>hb7'.block g hg.2))
    have HC7:=zak (HCx.out.step (HB6.out.trans hb7'))
    have HC8:Hid (∀ o:Obj,OwnMr (w7.drew.alloc o) (fun g=>W.heap.size≤g) A' k c' (crowT tot a T.b k) ds):= zak (fun o=>(HM7.out.below (zbp (zb3 (Below.refl _ _)) o)).mono (fun g _ hg=>hg.1))
    have HOd:Hid (∀ o:Obj,zb7 (w7.drew.alloc o) 0 (some ⟨wx.heap.size,0,none⟩) dd.length 7 dd):= zak (fun o=>by rw[hdl,hdd];exact (HO7.out.drew.alloc o).mono (Nat.zero_le _))
    have HDL2:=zak hdl
    have HDD2:=zak hdd
    have HLA:=zak hla
    have hz7:=hbl7.size
    have hWx:W.heap.size≤wx.heap.size:=Nat.le_trans hzr hzx
    clear hdl hdd hla hcut HC6 HM6 HSd hbl6 HO7 zp6 hb7'
    go_upto_region 7 with fail
    refine wp_region_held_drew (S:=(fun w'=>(∀ qA:Addr,qA.block < (W).heap.size→w'.cell? qA=(W).cell? qA)∧ Below (W).heap.size (W) w')) (by kernel_rfl) ?hS38 (fun hHeld=>?rest38)
    case hS38=>((try dsimp only);(((try go_split_ands);refine zbn ?_;all_goals exact bl)))
    case' rest38=>skip
    iterate 9 (refine tkN ?_;try simp only[PqL,Act.put])
    refine tkH 11 ?_
    try simp only[PqL,Act.put]
    refine wpAnyH_ready (rs:= [9]) (by kernel_rfl) (by simp) ?_
    refine AllReadyH.cons (o:=_) rfl (fun K hK=>?_) .nil
    go_simp
    refine (zmg (p:=p) _ R.A R.n R.c T.b (HC7.out.drew.blk.cell 4 rfl) HNR.out (by omega)).mono ?_
    rintro e w8 ⟨rfl,hw⟩
    subst hw
    rw[← HT.out]
    refine hK.out _ _ ?hS51 (fun hHeld=>?rest51)
    case hS51=>((try dsimp only);(((try go_split_ands);refine zbn ?_;all_goals exact bl)))
    case' rest51=>(clear hK K;try simp only[PqL,Act.put])
    refine tkH 10 ?_
    try simp only[PqL,Act.put]
    refine tkH 12 ?_
    try simp only[PqL,Act.put]
    refine wpAnyH_ready (rs:= [13]) (by kernel_rfl) (by simp) ?_
    refine AllReadyH.cons (o:=_) rfl (fun K hK=>?_) .nil
    go_simp
    refine hK.out _ _ ?hS56 (fun hHeld=>?rest56)
    case hS56=>((try dsimp only);(((try go_split_ands);refine zbn ?_;all_goals exact bl)))
    case' rest56=>(clear hK K;try simp only[PqL,Act.put])
    refine wpAnyH_ready (rs:= [14]) (by kernel_rfl) (by simp) ?_
    refine AllReadyH.cons (o:=_) rfl (fun K hK=>?_) .nil
    rw[if_pos (show Region.wanted _ _=true by kernel_rfl)]
    refine zmm (f:=msF) (k:=14) (e:=72) (dat:=Ms.data) (F:=fun g=>W.heap.size≤g) _ _ 97 rfl ze6 ze7 (by decide) 96 _ Try.underlying97 zmk rfl (by omega) (by omega) A' k c' (crowT tot a T.b k) ds rfl (HC8.out _) (⟨21,0,0,false,la,false,false,0,0,dd,j,0,0,0⟩:Ms) (some ⟨wx.heap.size,0,none⟩,7) _ rfl (by simp only[msF];rw[HDL2.out];exact (Blk.new _ _ _).sl) (HOd.out _) (by intro g hg;injection hg with hg;injection hg with hg;subst hg;exact hWx) (fun g hg=>by simp at hg;omega) (by omega) ?_
    intro A4 c4' w9 hO9 hg9 hA9
    have hgo:=zcd.of_grown (F:=fun g=>W.heap.size≤g) hg9 (fun q hq=>(zfi HM7.out hq).1)
    have hb9:Below W.heap.size W w9:=(zbp (zb3 hbl7) _).trans (hgo.below (N:=W.heap.size) (by simp;omega) (fun q hq=>hq))
    have HO9:=zak hO9
    have HB9:=zak hb9
    clear hO9 hg9 hA9 hgo
    refine hK.out _ _ ?hS59 (fun hHeld=>?rest59)
    case hS59=>((try dsimp only);(((try go_split_ands);refine zbn ?_;all_goals exact bl)))
    case' rest59=>(clear hK K;try simp only[PqL,Act.put])
    refine tkH 15 ?_
    try simp only[PqL,Act.put]
    refine wpAnyH_done (by kernel_rfl) ?_ _
    have hEnd:=hHeld.2
    repeat (clear hHeld)
    go_wp2_with fail
    go_roundw
    case rel=>
     refine⟨k+1,A4,c4',ds ++ [(some ⟨wx.heap.size,0,none⟩,7)],by rw[HJ.out];push_cast;rfl,rfl,by omega,?_,HB9.out⟩
     rw[zgt]
     have h9:=HO9.out
     rw[HLA.out,HDD2.out,HKK.out,HJ.out] at h9
     exact h9
    case measure=>simp[intOf];have:=HJ.out;omega
  · obtain rfl:k=r:=by omega
    have hbr2:=hbr
    clear hj
    by_cases hjm:j≤most
    · have hst: ¬ s≤(tot:Int):= by have:=HRI.out;have h1:=HS.out;have h2:=HJ.out;omega
      have hws:IntKind.i64.wrap s=s:=by unfold IntKind.wrap;simp[IntKind.signed,IntKind.bits];omega
      go_upto_region 3 with fail
      refine wp_region_held_drew (S:=(fun w'=>(∀ qA:Addr,qA.block < (W).heap.size→w'.cell? qA=(W).cell? qA)∧ Below (W).heap.size (W) w')) (by kernel_rfl) ?hS62 (fun hHeld=>?rest62)
      case hS62=>((try dsimp only);(((try go_split_ands);refine zbn ?_;all_goals exact bl)))
      case' rest62=>skip
      iterate 11 (refine tkN ?_;try simp only[PqL,Act.put])
      refine wpAnyH_ready (rs:= [11]) (by kernel_rfl) (by simp) ?_
      refine AllReadyH.cons (o:=_) rfl (fun K hK=>?_) .nil
      go_simp
      refine (zmg (p:=p) _ R.A R.n R.c T.b (HCr.out.drew.blk.cell 4 rfl) HNR.out (by omega)).mono ?_
      rintro e w2 ⟨rfl,hw⟩
      subst hw
      rw[← HT.out]
      refine hK.out _ _ ?hS76 (fun hHeld=>?rest76)
      case hS76=>((try dsimp only);(((try go_split_ands);refine zbn ?_;all_goals exact bl)))
      case' rest76=>(clear hK K;try simp only[PqL,Act.put])
      refine tkH 12 ?_
      try simp only[PqL,Act.put]
      refine tkH 13 ?_
      try simp only[PqL,Act.put]
      refine wpAnyH_done (by kernel_rfl) ?_ _
      have hEnd:=hHeld.2
      repeat (clear hHeld)
      go_upto_region 8 with fail
      refine zcn (P:=fun W2=>Below wr.heap.size wr W2) (by have hb:=Below.refl wr.heap.size wr;exact bl) (fun wx hx=>?_)
      have HC3:=zak (HCr.out.step hx)
      have HO3:=zak (HOM.out.below hx)
      have z3:=HC3.out.lt
      have e13:wx.cell? ⟨p,13,none⟩=some (.int .i64 T.ro):= HC3.out.blk.cell 13 rfl
      have e1:wx.cell? ⟨p,1,none⟩=some (.int .i64 T.wk):= HC3.out.blk.cell 1 rfl
      have ff:=HC3.out.blk.frozen
      have H5:Hid (RM w0 G p (rclL { T with ro:=(k:Int),wk:=17 } R) ks rs ((wx.setCell ⟨p,13,none⟩ (.int .i64 (k:Nat))).setCell ⟨p,1,none⟩ (.int .i64 17))):= zak ((HC3.out.set 13 (.int .i64 (k:Nat))).set 1 (.int .i64 17))
      have HO5:Hid (OwnMr ((wx.setCell ⟨p,13,none⟩ (.int .i64 (k:Nat))).setCell ⟨p,1,none⟩ (.int .i64 17)) (fun g=>W.heap.size≤g) A' k c' (crowT tot a T.b k) ds):= zak (HO3.out.keep (fun g hg hlt=>(zcd.set (fun q=>q=p) (zcd.set (fun q=>q=p) (zcd.refl _ wx) (i:=13) rfl (.int .i64 (k:Nat))) (i:=1) rfl (.int .i64 17)).block g hlt (fun e=>by have hgW:W.heap.size≤g:=hg;omega)))
      have HSR:=zak (zld p T.nd (crowT tot a T.b k) A' k c' _ (H5.out.blk.cell 0 rfl) HND.out (zgu _ _ _ _).symm (zml HO5.out) (zgs _ _ _ _) (by omega))
      clear hx c4 c12 hbr HCr HOM HO3 HC3 HBR
      go_wp2_with fail
      refine HSR.out.mono ?_
      rintro e w6 ⟨As,ns,cs,ds2,rfl,hO,hb⟩
      have HF:=zak (zlk (T:={ T with ro:=(k:Int),wk:=17 }) (R:=R) H5.out HBB.out HDD.out ⟨As,ns,cs,ds2,rfl,hO,hb⟩)
      clear hO hb
      go_wp2_with fail
      rw[HP.out]
      exact HF.out
    · go_upto_region 3 with fail
      refine wp_region_held_drew (S:=(fun w'=>(∀ qA:Addr,qA.block < (W).heap.size→w'.cell? qA=(W).cell? qA)∧ Below (W).heap.size (W) w')) (by kernel_rfl) ?hS80 (fun hHeld=>?rest80)
      case hS80=>((try dsimp only);(((try go_split_ands);refine zbn ?_;all_goals exact bl)))
      case' rest80=>skip
      iterate 4 (refine tkN ?_;try simp only[PqL,Act.put])
      iterate 9 (refine tkV ?_;try simp only[PqL,Act.put])
      refine tkN ?_;try simp only[PqL,Act.put]
      refine wpAnyH_done (by kernel_rfl) ?_ _
      have hEnd:=hHeld.2
      repeat (clear hHeld)
      go_upto_region 8 with fail
      refine zcn (P:=fun W2=>Below wr.heap.size wr W2) (by have hb:=Below.refl wr.heap.size wr;exact bl) (fun wx hx=>?_)
      have HC3:=zak (HCr.out.step hx)
      have HO3:=zak (HOM.out.below hx)
      have z3:=HC3.out.lt
      have e13:wx.cell? ⟨p,13,none⟩=some (.int .i64 T.ro):= HC3.out.blk.cell 13 rfl
      have e1:wx.cell? ⟨p,1,none⟩=some (.int .i64 T.wk):= HC3.out.blk.cell 1 rfl
      have ff:=HC3.out.blk.frozen
      have H5:Hid (RM w0 G p (rclL { T with ro:=(k:Int),wk:=17 } R) ks rs ((wx.setCell ⟨p,13,none⟩ (.int .i64 (k:Nat))).setCell ⟨p,1,none⟩ (.int .i64 17))):= zak ((HC3.out.set 13 (.int .i64 (k:Nat))).set 1 (.int .i64 17))
      have HO5:Hid (OwnMr ((wx.setCell ⟨p,13,none⟩ (.int .i64 (k:Nat))).setCell ⟨p,1,none⟩ (.int .i64 17)) (fun g=>W.heap.size≤g) A' k c' (crowT tot a T.b k) ds):= zak (HO3.out.keep (fun g hg hlt=>(zcd.set (fun q=>q=p) (zcd.set (fun q=>q=p) (zcd.refl _ wx) (i:=13) rfl (.int .i64 (k:Nat))) (i:=1) rfl (.int .i64 17)).block g hlt (fun e=>by have hgW:W.heap.size≤g:=hg;omega)))
      have HSR:=zak (zld p T.nd (crowT tot a T.b k) A' k c' _ (H5.out.blk.cell 0 rfl) HND.out (zgu _ _ _ _).symm (zml HO5.out) (zgs _ _ _ _) (by omega))
      clear hx c4 c12 hbr HCr HOM HO3 HC3 HBR
      go_wp2_with fail
      refine HSR.out.mono ?_
      rintro e w6 ⟨As,ns,cs,ds2,rfl,hO,hb⟩
      have HF:=zak (zlk (T:={ T with ro:=(k:Int),wk:=17 }) (R:=R) H5.out HBB.out HDD.out ⟨As,ns,cs,ds2,rfl,hO,hb⟩)
      clear hO hb
      go_wp2_with fail
      rw[HP.out]
      exact HF.out
end
end
end Go.Proofs.Ythdbckbpldlkeaa
