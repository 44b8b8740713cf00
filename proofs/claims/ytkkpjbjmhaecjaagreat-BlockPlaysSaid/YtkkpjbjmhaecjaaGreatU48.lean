/- None -/
import Derived.Test.YtkkpjbjmhaecjaaGreatU44
import Derived.Test.YtkkpjbjmhaecjaaGreatU46
import Derived.Test.YtkkpjbjmhaecjaaGreatU47
namespace Go.Proofs.YtkkpjbjmhaecjaaGreat
set_option linter.all false
set_option maxRecDepth 100000
set_option maxHeartbeats 40000000
section
open Go.RowKit
theorem zow {L:List Ent}{a:Int}(h:NewP L 0 a):SortedE L:=by
 rcases h with ⟨_,h,_⟩ | ⟨_,h,_⟩ | ⟨_,_,_,h⟩
 · omega
 · exact absurd rfl h
 · exact zdl _ L rfl h
theorem zox {L:List Ent}{a:Int}(h:NewP L 0 a):∀E ∈ L,rightE E=0:=by
 rcases h with ⟨_,h,_⟩ | ⟨_,h,_⟩ | ⟨_,_,_,h⟩
 · omega
 · exact absurd rfl h
 · intro E hE;obtain⟨k,hk,rfl⟩:=List.getElem_of_mem hE;exact zdk (List.getElem?_eq_getElem hk) (h k hk)
theorem zoy {N:Nat}{L:List Ent}{pp pd pt ps pr:Nat}{W:World}(h:zoz N L pp pd pt ps pr W):W.cell? ⟨pp,3,none⟩=some (.pointer (some ⟨pr,0,none⟩)):=by
 obtain⟨V,S,lix,lsub,lb,X,Gs,Gr,Al,cl,hC,_⟩:=h;exact hC.pb.cell 3 rfl
theorem zoz.none {N:Nat}{L:List Ent}{pp pd pt ps pr:Nat}{W W':World}(h:zoz N L pp pd pt ps pr W)(ho:zbv (fun _=>False) W W'):zoz N L pp pd pt ps pr W':=by
 obtain⟨V,S,lix,lsub,lb,X,Gs,Gr,Al,cl,hC,h1,h2⟩:=h;exact⟨V,S,lix,lsub,lb,X,_,_,Al,cl,hC.only ho,h1,h2⟩
theorem BV_.blkB {w:World}{G:Nat→Prop}{p pd:Nat}{S:BlkS}(h:BV_ w G p pd S):∃A n c,Blk w p 114 (bsrV S pd A n c):=by
 obtain⟨A,n,c,hB,_⟩:=h;exact⟨A,n,c,hB⟩
structure OkMB (M:Ms):Prop where
 len:M.data.length≤7
 seg:M.kind=21→M.data.length=7
 em:0≤M.em∧M.em≤7
 bl:0≤M.bl∧M.bl≤127
 sq:0≤M.sq∧M.sq≤127
theorem zo0 {N:Nat}{L:List Ent}{pp pd pt ps pr:Nat}(kind:Int)(M:Ms)(A3:Option Addr)(m3 c3 code:Nat)(w:World)(h:zoz N L pp pd pt ps pr w)(hs:SortedE L)(hL:L.length≤1000)(hm:m3=M.data.length)(hM:OkMB M)(hMd:∀W,Below N w W→Sl W A3 (M.data.map bv))(hsz:M.size≤4294967295) :
 Calls Tryz.prog 13 #[.pointer (some ⟨pp,0,none⟩),.agg (opV kind M A3 m3 c3 code)] w (DoesB N L pp pd pt ps pr w):=by
 by_cases h0:kind=0
 · subst h0;refine zoi M A3 m3 c3 code w h hs hL hm (by have:=hM.len;omega) hMd ⟨hsz,?_,?_,?_⟩ (fun h=>by rw[hM.seg h];exact Nat.le_refl _) hM.em.2
   · have:=hM.em;omega
   · have:=hM.bl;omega
   · have:=hM.sq;omega
 by_cases h1:kind=1
 · subst h1;exact znx M A3 m3 c3 code w h hs hL
 by_cases h2:kind=2
 · subst h2;exact znu M A3 m3 c3 code w h hs hL
 by_cases h3:kind=3
 · subst h3;exact znv M A3 m3 c3 code w h hs hL
 exact znw kind M A3 m3 c3 code w h hs hL h0 h1 h2 h3
theorem zo2 (A:Option Addr)(n c:Nat)(L:List Ent)(A2:Option Addr)(m c2:Nat)(Q:List OpG)(w:World)(hn:n=L.length)(hL:SlE w A L)(hm:m=Q.length)(hQ:SlG w A2 Q) :
 Calls Tryz.prog 3 #[.slice A n c,.slice A2 m c2] w (TrueB w):=by
 have HN:=zak hn;have HL:=zak hL;have HM:=zak hm;have HQ:=zak hQ;cases hli:lightL L
 · have HLI:=zak hli;clear hn hL hli hm hQ;go_enter Tryz.func3,Tryz.ntmps3
   go_wp2_with fail
   refine (zmq A n c L _ HN.out HL.out).mono ?_;rintro e w1 ⟨rfl,rfl⟩;rw[HLI.out];go_wp2_with fail
   refine (zn4 _).mono ?_;rintro e wz ⟨rfl,hbz⟩;go_wp2_with fail
   go_ret
   exact (⟨rfl,hbz⟩:TrueB w _ _)
 have HLI:=zak hli;have HFT:=zak (zmo hli);have h200:n≤200:=by rw[hn];exact zmp hli
 clear hn hL hli hm hQ;go_enter Tryz.func3,Tryz.ntmps3
 go_wp2_with fail
 refine (zmq A n c L _ HN.out HL.out).mono ?_;rintro e w1 ⟨rfl,rfl⟩;rw[HLI.out];go_upto_block 0 with fail
 go_cut [5,6] from 20 to 85 (fun _ _ wx=>Hid (∀k' o,k' < 80→Q[k']? =some o→OkMB o.M)∧ Below w.heap.size w wx)
 case first=>
  go_wp2_with fail
  go_loopw [5,6] (fun s5 _ wx=> ∃k:Nat,s5= .int .i64 (k:Nat)∧ k≤m∧k≤80∧Hid (∀j o,j < k→Q[j]? =some o→OkMB o.M)∧ Below w.heap.size w wx) (fun s5 _ _=>m - (intOf s5).toNat)
  case atStart=>exact⟨0,rfl,by omega,by omega,zak (fun j o h=>by omega),Below.refl _ _⟩
  case round=>
   obtain⟨k,rfl,hk,hk80,HK,hbr⟩:=hrel;by_cases hlt:k < m∧k < 80
   · obtain⟨hlt,h80⟩:=hlt;obtain⟨o,ho⟩:∃o,Q[k]? =some o:=⟨Q[k]'(by rw[←HM.out];exact hlt),List.getElem?_eq_getElem _⟩;obtain⟨b,off,Aj,cj,rfl,⟨c0,c1,c2',c3,c4,c5,c6,c7,c8,c9,c10,c11,c12,c13,c14,c15⟩,_,_,_⟩:=(HQ.out.below hbr) k o ho;have z0:=zal c0;simp only[] at z0;have HO:=zak ho;obtain⟨knd,⟨kind,ix,sub,tg,la,cr,sz,size,code,data,sq,bl,em,sum⟩,ocd⟩:=o;simp only at c0 c1 c2' c3 c4 c5 c6 c7 c8 c9 c10 c11 c12 c13 c14 c15;obtain⟨lb,hlb⟩:∃lb,lb=data.length:=⟨_,rfl⟩;rw[←hlb] at c10;have HLB:=zak hlb;obtain⟨i1,i2,i3⟩:=zbk hlt;clear hlb ho;by_cases h7:7 < lb
     · have hbi:(7:Int) < (lb:Int):=by omega
       go_wp2_with fail
       refine (zn4 _).mono ?_;rintro e wz ⟨rfl,hbz⟩;go_wp2_with fail
       go_ret
       exact (⟨rfl,za5 hbz (za7 hbr _)⟩:TrueB w _ _)
     have hbi: ¬(7:Int) < (lb:Int):=by omega
     rcases Bool.eq_false_or_eq_true (kind == 21) with hkd | hkd
     · by_cases hl7:lb=7
       · have hln:((lb:Int) != 7)=false:=by simp[hl7]
         have HL7:=zak hl7;clear hl7;by_cases hq:sq < 1
         · go_wp2_with fail
           refine (zn4 _).mono ?_;rintro e wz ⟨rfl,hbz⟩;go_wp2_with fail
           go_ret
           exact (⟨rfl,za5 hbz (za7 hbr _)⟩:TrueB w _ _)
         by_cases e0:em < 0
         · go_wp2_with fail
           refine (zn4 _).mono ?_;rintro e wz ⟨rfl,hbz⟩;go_wp2_with fail
           go_ret
           exact (⟨rfl,za5 hbz (za7 hbr _)⟩:TrueB w _ _)
         by_cases e1:7 < em
         · go_wp2_with fail
           refine (zn4 _).mono ?_;rintro e wz ⟨rfl,hbz⟩;go_wp2_with fail
           go_ret
           exact (⟨rfl,za5 hbz (za7 hbr _)⟩:TrueB w _ _)
         by_cases e2:bl < 0
         · go_wp2_with fail
           refine (zn4 _).mono ?_;rintro e wz ⟨rfl,hbz⟩;go_wp2_with fail
           go_ret
           exact (⟨rfl,za5 hbz (za7 hbr _)⟩:TrueB w _ _)
         by_cases e3:127 < bl
         · go_wp2_with fail
           refine (zn4 _).mono ?_;rintro e wz ⟨rfl,hbz⟩;go_wp2_with fail
           go_ret
           exact (⟨rfl,za5 hbz (za7 hbr _)⟩:TrueB w _ _)
         have e4: ¬sq < 0:=by omega
         by_cases e5:127 < sq
         · go_wp2_with fail
           refine (zn4 _).mono ?_;rintro e wz ⟨rfl,hbz⟩;go_wp2_with fail
           go_ret
           exact (⟨rfl,za5 hbz (za7 hbr _)⟩:TrueB w _ _)
         have HK2:Hid (∀j o,j < k+1→Q[j]? =some o→OkMB o.M):=zak (fun j o' hj ho'=>by
          by_cases hjk:j < k
          · exact HK.out j o' hjk ho'
          · have:j=k:=by omega
            subst this;rw[HO.out] at ho';injection ho' with ho'
            rw[←ho'];have hl:=HLB.out;exact⟨show data.length≤7 by omega,fun h=>by have:=HL7.out;show data.length=7;omega,⟨show 0≤em by omega,show em≤7 by omega⟩,⟨show 0≤bl by omega,show bl≤127 by omega⟩,⟨show 0≤sq by omega,show sq≤127 by omega⟩⟩)
         go_wp2_with fail
         exact⟨⟨k+1,by congr 1,by omega,by omega,HK2,za7 hbr _⟩,by simp only[intOf];omega⟩
       · have hln:((lb:Int) != 7)=true:=by simp;omega
         go_wp2_with fail
         refine (zn4 _).mono ?_;rintro e wz ⟨rfl,hbz⟩;go_wp2_with fail
         go_ret
         exact (⟨rfl,za5 hbz (za7 hbr _)⟩:TrueB w _ _)
     · by_cases e0:em < 0
       · go_wp2_with fail
         refine (zn4 _).mono ?_;rintro e wz ⟨rfl,hbz⟩;go_wp2_with fail
         go_ret
         exact (⟨rfl,za5 hbz (za7 hbr _)⟩:TrueB w _ _)
       by_cases e1:7 < em
       · go_wp2_with fail
         refine (zn4 _).mono ?_;rintro e wz ⟨rfl,hbz⟩;go_wp2_with fail
         go_ret
         exact (⟨rfl,za5 hbz (za7 hbr _)⟩:TrueB w _ _)
       by_cases e2:bl < 0
       · go_wp2_with fail
         refine (zn4 _).mono ?_;rintro e wz ⟨rfl,hbz⟩;go_wp2_with fail
         go_ret
         exact (⟨rfl,za5 hbz (za7 hbr _)⟩:TrueB w _ _)
       by_cases e3:127 < bl
       · go_wp2_with fail
         refine (zn4 _).mono ?_;rintro e wz ⟨rfl,hbz⟩;go_wp2_with fail
         go_ret
         exact (⟨rfl,za5 hbz (za7 hbr _)⟩:TrueB w _ _)
       by_cases e4:sq < 0
       · go_wp2_with fail
         refine (zn4 _).mono ?_;rintro e wz ⟨rfl,hbz⟩;go_wp2_with fail
         go_ret
         exact (⟨rfl,za5 hbz (za7 hbr _)⟩:TrueB w _ _)
       by_cases e5:127 < sq
       · go_wp2_with fail
         refine (zn4 _).mono ?_;rintro e wz ⟨rfl,hbz⟩;go_wp2_with fail
         go_ret
         exact (⟨rfl,za5 hbz (za7 hbr _)⟩:TrueB w _ _)
       have HK2:Hid (∀j o,j < k+1→Q[j]? =some o→OkMB o.M):=zak (fun j o' hj ho'=>by
        by_cases hjk:j < k
        · exact HK.out j o' hjk ho'
        · have:j=k:=by omega
          subst this;rw[HO.out] at ho';injection ho' with ho'
          rw[←ho'];have hl:=HLB.out;exact⟨show data.length≤7 by omega,fun h=>by have h9:kind=21:=h;rw[h9] at hkd;simp at hkd,⟨show 0≤em by omega,show em≤7 by omega⟩,⟨show 0≤bl by omega,show bl≤127 by omega⟩,⟨show 0≤sq by omega,show sq≤127 by omega⟩⟩)
       go_wp2_with fail
       exact⟨⟨k+1,by congr 1,by omega,by omega,HK2,za7 hbr _⟩,by simp only[intOf];omega⟩
   · have HE:Hid (∀k' o,k' < 80→Q[k']? =some o→OkMB o.M):=zak (fun k' o h1 h2=>HK.out k' o (by have:=(List.getElem?_eq_some_iff.1 h2).1;have:=HM.out;omega) h2);have hlt':m≤k∨(k < m∧80≤k):=by omega
     rcases hlt' with h | ⟨h1,h2⟩
     all_goals
      go_wp2_with fail
      go_meet
      exact⟨HE,hbr⟩
 case rest=>
  obtain⟨HE,hbr⟩:=hcut;go_wp2_with fail
  refine (zny A n c L _ HN.out (HL.out.below hbr) HFT.out).mono ?_;rintro e w2 ⟨v,er,at_,rfl,hnp,h2,h3,hb2⟩;go_wp2_with fail
  refine (zj8 A n c L _ HN.out ((HL.out.below hbr).below hb2) HFT.out).mono ?_;rintro e w3 ⟨pt,er',at',rfl,hnp',h3',hb3⟩;obtain⟨rfl,rfl⟩:=zde hnp' hnp;have hb13:=(hbr.trans ((za5 hb3 hb2).mono hbr.size));by_cases her:er'=0
  · subst her;obtain⟨pd,gl,n',cl,Av,cv,ds,es,rfl,hn',hD⟩:=h3 rfl;obtain⟨Al2,n2,cl2,Av2,cv2,ds2,es2,hn2,hD2⟩:=h3' rfl;have HS:Hid (SortedE L):=zak (zow hnp);have HVP:Hid (ValsP L (L.map Ent.df)):=zak (zms (zox hnp));have z2:=hb2.size;have z3:=hb3.size;have hT:zmx w.heap.size (fun g=>w3.heap.size≤g) L (L.map Ent.df) pt w3 pd:=by
     have hzr:=hbr.size;have e1:n2=n':=hn2.trans hn'.symm;subst e1;refine⟨fun g=>wc.heap.size≤g∧g < w2.heap.size,fun g=>w2.heap.size≤g∧g < w3.heap.size,gl,n2,cl,Av,cv,ds,es,Al2,cl2,Av2,cv2,ds2,es2,⟨hn2,(hD.mono (G:=fun g=>wc.heap.size≤g∧g < w2.heap.size) (fun g h1 h2=>⟨h2,h1⟩)).below hb3,hD2.mono (fun g h1 h2=>⟨h2,h1⟩),?_,?_,?_⟩⟩
     · rintro g ⟨h1,h2⟩;exact⟨by omega,by omega,by omega⟩
     · rintro g ⟨h1,h2⟩;exact⟨by omega,by omega,by omega⟩
     · rintro g ⟨h1,h2⟩ ⟨h3,h4⟩;omega
    have HT:=zak hT;clear h2 h3 h3' hnp hnp' hD hD2 hn' hn2 hT z2 z3;go_wp2_with fail
    refine (zij pd _).mono ?_;rintro e w4 ⟨rfl,hB4,hb4,hz4⟩;have HB4:=zak hB4;have hb14:=za5 hb4 hb13;have HT4:=zak (HT.out.below hb4);clear hB4;go_wp2_with fail
    refine (zkm pt _).mono ?_;rintro e w5 ⟨rfl,hB5,hb5,hz5⟩;have hb15:=za5 hb5 hb14;have hpb:=Blk.new w5 48 #[.pointer (some ⟨pd,0,none⟩),.pointer (some ⟨pt,0,none⟩),.pointer (some ⟨w3.heap.size,0,none⟩),.pointer (some ⟨w4.heap.size,0,none⟩),.int .i64 0,.int .i64 0,.slice none 0 0];have hP:zoz w.heap.size L w5.heap.size pd pt w3.heap.size w4.heap.size (w5.alloc (.cells #[.pointer (some ⟨pd,0,none⟩),.pointer (some ⟨pt,0,none⟩),.pointer (some ⟨w3.heap.size,0,none⟩),.pointer (some ⟨w4.heap.size,0,none⟩),.int .i64 0,.int .i64 0,.slice none 0 0] 48)):=by
     have z3:=hb13.size;refine⟨L.map Ent.df,blkZ,0,0,[],fun g=>w3.heap.size≤g,fun _=>False,fun _=>False,none,0,⟨(HT4.out.below hb5).below (za7 (Below.refl _ _) _),hpb,⟨none,0,0,(HB4.out.below hb5 HB4.out.lt).alloc _,fun h=>absurd rfl h⟩,⟨0,fun _=>rfl,(show RBV w5 (fun _=>False) w4.heap.size pt blkZ from hB5).keep (by simp) (fun q _ hq=>Below.heap_alloc _ _ _ hq) (fun _ _ h=>h)⟩,Nat.le_refl _,Nat.zero_le _,Sl.nil _ _,(fun ad e=>by cases e),(fun q h=>h.elim),(fun q h=>h.elim),(fun q h=>h.elim),⟨by omega,by omega,by omega⟩,⟨fun h=>h,fun h=>h,fun h=>h⟩,⟨by omega,by omega,by omega⟩,⟨by omega,by omega,by omega⟩⟩,⟨bwf_z,fun h=>absurd h (show ¬(0:Int)=2 by decide),by decide,by decide⟩,HVP.out⟩
    have HP:=zak hP;have hbp:=za7 hb15 (.cells #[.pointer (some ⟨pd,0,none⟩),.pointer (some ⟨pt,0,none⟩),.pointer (some ⟨w3.heap.size,0,none⟩),.pointer (some ⟨w4.heap.size,0,none⟩),.int .i64 0,.int .i64 0,.slice none 0 0] 48);have HBP:=zak hbp;obtain⟨ps,hps⟩:∃ps,ps=w3.heap.size:=⟨_,rfl⟩;obtain⟨pr,hpr⟩:∃pr,pr=w4.heap.size:=⟨_,rfl⟩;obtain⟨pp,hpp⟩:∃pp,pp=w5.heap.size:=⟨_,rfl⟩;rw[←hps,←hpr,←hpp] at HP;rw[←hps,←hpr] at HBP;clear hP hbp hpb hB5 hb5 hz5 hb4 hz4 hb14 hb15 HB4 HT HT4 hb13 hb3 hb2;go_upto_region 17 with fail
    simp only[←hps,←hpr,←hpp];refine zb6 (P:=fun W=>zoz w.heap.size L pp pd pt ps pr W∧Below w.heap.size w W) ⟨HP.out,HBP.out⟩ (fun W0 hW0=>?_);clear HP HBP hps hpr hpp;obtain⟨hP0,hb0⟩:=hW0;have HP0:=zak hP0;clear hP0;have HQ0:=zak (HQ.out.below hb0);go_wp2_with fail
    go_loopw [15] (fun s13 wx=> ∃k:Nat,s13= .int .i64 (k:Nat)∧ k≤m∧k≤80∧Hid (zoz w.heap.size L pp pd pt ps pr wx)∧ Below w.heap.size w wx) (fun s13 _=>m - (intOf s13).toNat)
    case atStart=>exact⟨0,rfl,by omega,by omega,HP0,hb0⟩
    case round=>
     obtain⟨k,rfl,hk,hk60,HP,hbr⟩:=hrel;by_cases hlt:k < m∧k < 80
     · obtain⟨hlt,h80⟩:=hlt;obtain⟨o,ho⟩:∃o,Q[k]? =some o:=⟨Q[k]'(by rw[←HM.out];exact hlt),List.getElem?_eq_getElem _⟩;have hd100:=HE.out k o h80 ho;have hsl:∀W,Below w.heap.size w W→ ∃b off Aj cj,A2=some ⟨b,off,none⟩∧ SlG W A2 Q:=fun W hW=>by
        obtain⟨b,off,Aj,cj,h1,_⟩:=HQ.out k o ho;exact⟨b,off,Aj,cj,h1,HQ.out.below hW⟩
       obtain⟨b,off,Aj,cj,hA2,hcells,hcj,hsj,hszj⟩:=HQ.out k o ho;subst hA2;obtain⟨knd,⟨kind,ix,sub,tg,la,cr,sz,size,code,data,sq,bl,em,sum⟩,ocd⟩:=o;simp only at hcells hcj hsj hszj hd100;obtain⟨lb,hlb⟩:∃lb,lb=data.length:=⟨_,rfl⟩;rw[←hlb] at hcells hcj;have HLB:=zak hlb;have hcw:∀w',Below w.heap.size w w'→(w'.cell? ⟨b,off+k * 16,none⟩=some (.int .i64 knd)∧ w'.cell? ⟨b,off+k * 16+1,none⟩=some (.int .i64 kind)∧ w'.cell? ⟨b,off+k * 16+2,none⟩=some (.int .i64 ix)∧ w'.cell? ⟨b,off+k * 16+3,none⟩=some (.int .i64 sub)∧ w'.cell? ⟨b,off+k * 16+4,none⟩=some (.bool tg)∧ w'.cell? ⟨b,off+k * 16+5,none⟩=some (.bool la)∧ w'.cell? ⟨b,off+k * 16+6,none⟩=some (.bool cr)∧ w'.cell? ⟨b,off+k * 16+7,none⟩=some (.bool sz)∧ w'.cell? ⟨b,off+k * 16+8,none⟩=some (.int .u32 (size:Nat))∧ w'.cell? ⟨b,off+k * 16+9,none⟩=some (.int .u32 (code:Nat))∧ w'.cell? ⟨b,off+k * 16+10,none⟩=some (.slice Aj lb cj)∧ w'.cell? ⟨b,off+k * 16+11,none⟩=some (.int .i64 sq)∧ w'.cell? ⟨b,off+k * 16+12,none⟩=some (.int .i64 bl)∧ w'.cell? ⟨b,off+k * 16+13,none⟩=some (.int .i64 em)∧ w'.cell? ⟨b,off+k * 16+14,none⟩=some (.int .u16 (sum:Nat))∧ w'.cell? ⟨b,off+k * 16+15,none⟩=some (.int .u32 (ocd:Nat))):=fun w' hb=>by
        obtain⟨c0,c1,c2,c3,c4,c5,c6,c7,c8,c9,c10,c11,c12,c13,c14,c15⟩:=hcells;exact⟨(hb.cell (zal c0)).trans c0,(hb.cell (zal c1)).trans c1,(hb.cell (zal c2)).trans c2,(hb.cell (zal c3)).trans c3,(hb.cell (zal c4)).trans c4,(hb.cell (zal c5)).trans c5,(hb.cell (zal c6)).trans c6,(hb.cell (zal c7)).trans c7,(hb.cell (zal c8)).trans c8,(hb.cell (zal c9)).trans c9,(hb.cell (zal c10)).trans c10,(hb.cell (zal c11)).trans c11,(hb.cell (zal c12)).trans c12,(hb.cell (zal c13)).trans c13,(hb.cell (zal c14)).trans c14,(hb.cell (zal c15)).trans c15⟩
       have HCW:=zak hcw;have HSJ:=zak (And.intro hcj (And.intro hsj (And.intro hszj hd100)));obtain⟨i1,i2,i3⟩:=zbk hlt;have hcr:=HCW.out _ hbr;have hbz:b < w.heap.size:=by
        have h1:=hcells.1;exact zal h1
       have hLn:L.length≤1000:=by rw[←HN.out];omega
       clear hcells hcw hsl hlb hcj hsj hszj hd100 ho;go_wp2_with fail
       have hp3:=zoy HP.out;refine wp_region_held_drew (S:=(fun w'=>w'.cell? ⟨pp,3,none⟩=some (.pointer (some ⟨pr,0,none⟩))∧ w'.cell? ⟨b,off+k * 16,none⟩=some (.int .i64 knd)∧ w'.cell? ⟨b,off+k * 16+1,none⟩=some (.int .i64 kind)∧ w'.cell? ⟨b,off+k * 16+2,none⟩=some (.int .i64 ix)∧ w'.cell? ⟨b,off+k * 16+3,none⟩=some (.int .i64 sub)∧ w'.cell? ⟨b,off+k * 16+4,none⟩=some (.bool tg)∧ w'.cell? ⟨b,off+k * 16+5,none⟩=some (.bool la)∧ w'.cell? ⟨b,off+k * 16+6,none⟩=some (.bool cr)∧ w'.cell? ⟨b,off+k * 16+7,none⟩=some (.bool sz)∧ w'.cell? ⟨b,off+k * 16+8,none⟩=some (.int .u32 (size:Nat))∧ w'.cell? ⟨b,off+k * 16+9,none⟩=some (.int .u32 (code:Nat))∧ w'.cell? ⟨b,off+k * 16+10,none⟩=some (.slice Aj lb cj)∧ w'.cell? ⟨b,off+k * 16+11,none⟩=some (.int .i64 sq)∧ w'.cell? ⟨b,off+k * 16+12,none⟩=some (.int .i64 bl)∧ w'.cell? ⟨b,off+k * 16+13,none⟩=some (.int .i64 em)∧ w'.cell? ⟨b,off+k * 16+14,none⟩=some (.int .u16 (sum:Nat))∧ w'.cell? ⟨b,off+k * 16+15,none⟩=some (.int .u32 (ocd:Nat)))) (by kernel_rfl) ?hS1 (fun hHeld=>?rest1)
       case hS1=>((try dsimp only);(exact⟨hp3,hcr⟩))
       case' rest1=>skip
       iterate 5 (refine tkN ?_;try simp only[PqL,Act.put])
       refine kRd 5 (fun K hK=>?_)
       go_simp
       refine (zo0 knd (⟨kind,ix,sub,tg,la,cr,sz,size,code,data,sq,bl,em,sum⟩:Ms) Aj lb cj ocd _ (HP.out.none (zbv.of_below (Below.drew (Below.refl _ _)))) HS.out hLn HLB.out HSJ.out.2.2.2 (fun W hW=>HSJ.out.2.1.below ((hbr.trans (Below.drew (Below.refl _ _))).trans hW)) HSJ.out.2.2.1).mono ?_;rintro e w5 ⟨rfl,hP5,hb5⟩;dsimp only;have hbr5:Below w.heap.size w w5:=(hbr.trans (Below.drew (Below.refl _ _))).trans hb5;have hc5:=HCW.out _ hbr5;have HP5:=zak hP5;clear hcr;have q3:=zoy HP5.out;refine hK.out _ _ ?hS9 (fun hHeld=>?rest9)
       case hS9=>((try dsimp only);(exact⟨q3,hc5⟩))
       case' rest9=>(clear hK K;try simp only[PqL,Act.put])
       obtain⟨V5,S5,lix5,lsub5,lb5,X5,Gs5,Gr5,Al5,cl5,hC5,hwf5,hvp5⟩:=HP5.out;obtain⟨A6,n6,c6,hsb⟩:=hC5.sv.blkB;obtain⟨R5,A7,n7,c7,hrb⟩:=hC5.rv.blk_;have HSB:=zak hsb;have r1:w5.cell? ⟨pr,1,none⟩=some (.int .i64 S5.st):=hrb.cell 1 rfl;have zq:=hC5.pb.lt;have zr:=hrb.lt;have HC5:=zak hC5;clear hC5 hsb hrb hwf5 hvp5;refine tkH 6 ?_;try simp only[PqL,Act.put]
       refine tkH 7 ?_;try simp only[PqL,Act.put]
       refine tkH 8 ?_;try simp only[PqL,Act.put]
       refine tkH 10 ?_;try simp only[PqL,Act.put]
       refine tkH 11 ?_;try simp only[PqL,Act.put]
       refine tkH 12 ?_;try simp only[PqL,Act.put]
       refine tkH 13 ?_;try simp only[PqL,Act.put]
       refine tkH 14 ?_;try simp only[PqL,Act.put]
       refine tkH 15 ?_;try simp only[PqL,Act.put]
       refine wpAnyH_ready (rs:=[9,16]) (by kernel_rfl) (by simp) (AllReadyH.cons (o:=_) rfl (fun K hK=>?_) (AllReadyH.cons (o:=_) rfl (fun K hK=>?_) .nil))
       · go_simp
         refine (zil ps pd S5 A6 n6 c6 _ HSB.out).mono ?_;rintro e w6 ⟨rfl,hw6⟩;subst hw6;dsimp only;refine hK.out _ _ ?hS20 (fun hHeld=>?rest20)
         case hS20=>((try dsimp only);(exact⟨q3,hc5⟩))
         case' rest20=>(clear hK K;try simp only[PqL,Act.put])
         refine kRd 16 (fun K hK=>?_)
         go_simp
         refine hK.out _ _ ?hS23 (fun hHeld=>?rest23)
         case hS23=>((try dsimp only);(exact⟨q3,hc5⟩))
         case' rest23=>(clear hK K;try simp only[PqL,Act.put])
         refine tkH 17 ?_;try simp only[PqL,Act.put]
         refine tkH 18 ?_;try simp only[PqL,Act.put]
         refine tkH 19 ?_;try simp only[PqL,Act.put]
         refine tkH 20 ?_;try simp only[PqL,Act.put]
         refine tkH 21 ?_;try simp only[PqL,Act.put]
         refine tkH 23 ?_;try simp only[PqL,Act.put]
         refine tkH 24 ?_;try simp only[PqL,Act.put]
         refine tkH 25 ?_;try simp only[PqL,Act.put]
         refine tkH 26 ?_;try simp only[PqL,Act.put]
         refine tkH 27 ?_;try simp only[PqL,Act.put]
         refine tkH 28 ?_;try simp only[PqL,Act.put]
         refine wpAnyH_ready (rs:=[22,29]) (by kernel_rfl) (by simp) (AllReadyH.cons (o:=_) rfl (fun K hK=>?_) (AllReadyH.cons (o:=_) rfl (fun K hK=>?_) .nil))
         · go_simp
           refine (zim ps pd S5 A6 n6 c6 _ HSB.out).mono ?_;rintro e w7 ⟨rfl,hw7⟩;subst hw7;dsimp only;refine hK.out _ _ ?hS36 (fun hHeld=>?rest36)
           case hS36=>((try dsimp only);(exact⟨q3,hc5⟩))
           case' rest36=>(clear hK K;try simp only[PqL,Act.put])
           refine kRd 29 (fun K hK=>?_)
           go_simp
           refine hK.out _ _ ?hS39 (fun hHeld=>?rest39)
           case hS39=>((try dsimp only);(exact⟨q3,hc5⟩))
           case' rest39=>(clear hK K;try simp only[PqL,Act.put])
           refine tkH 30 ?_;try simp only[PqL,Act.put]
           refine tkH 31 ?_;try simp only[PqL,Act.put]
           refine tkH 32 ?_;try simp only[PqL,Act.put]
           refine tkH 33 ?_;try simp only[PqL,Act.put]
           refine tkH 34 ?_;try simp only[PqL,Act.put]
           refine tkH 36 ?_;try simp only[PqL,Act.put]
           obtain⟨Fd,Fr,gl,n8,cl8,Av,cv,ds,es,Al2,cl2,Av2,cv2,ds2,es2,T⟩:=HC5.out.two;have hn8:n8≤1000:=by rw[T.hn];exact hLn
           have HTT:=zak T;clear T r1;refine kRd 35 (fun K hK=>?_)
           go_simp
           refine (zou _ HTT.out.d hn8).mono ?_;rintro e w8 ⟨A8,n9,c8,ds8,rfl,hO8,hap8,hb8⟩;dsimp only;have hn9:n9=n8:=by rw[hO8.hn,zh6 _ _ HTT.out.d.lenV,HTT.out.hn]
           subst hn9;have HO8:=zak hO8;have HB8:=zak hb8;have hc8:=HCW.out _ (hbr5.trans (hb8.mono hbr5.size));have q8:=zoy (HP5.out.none (zbv.of_below hb8));clear hO8 hap8 hb8 hc5;refine hK.out _ _ ?hS48 (fun hHeld=>?rest48)
           case hS48=>((try dsimp only);(exact⟨q8,hc8⟩))
           case' rest48=>(clear hK K;try simp only[PqL,Act.put])
           refine kRd 37 (fun K hK=>?_)
           go_simp
           refine (zov _ (HTT.out.r.below HB8.out) hn8).mono ?_;rintro e w9 ⟨A9,n10,c9,ds9,rfl,hO9,_,hb9⟩;dsimp only;have hn10:n10=n9:=by rw[hO9.hn,zh6 _ _ HTT.out.d.lenV,HTT.out.hn]
           subst hn10;have HO9:=zak hO9;have HB9:=zak (za5 hb9 HB8.out);have HB89:=zak hb9;have hc9':=HCW.out _ (hbr5.trans (HB9.out.mono hbr5.size));have q9:=zoy (HP5.out.none (zbv.of_below HB9.out));clear hO9 hb9 hc8 q8;refine hK.out _ _ ?hS51 (fun hHeld=>?rest51)
           case hS51=>((try dsimp only);(exact⟨q9,hc9'⟩))
           case' rest51=>(clear hK K;try simp only[PqL,Act.put])
           refine kRd 38 (fun K hK=>?_)
           go_simp
           refine (zmy A8 A9 n10 n10 c8 c9 (svL L V5) _ (by rw[zh6 _ _ HTT.out.d.lenV,HTT.out.hn]) (by rw[zh6 _ _ HTT.out.d.lenV,HTT.out.hn]) HO8.out.own.le HO9.out.own.le (by omega) (HO8.out.below HB89.out).slV HO9.out.slV).mono ?_;rintro e w10 ⟨rfl,hb10⟩;dsimp only;have hbX:=za5 hb10 HB9.out;have hbr10:Below w.heap.size w w10:=hbr5.trans (hbX.mono hbr5.size);have hc10:=HCW.out _ hbr10;have HPn:Hid (zoz w.heap.size L pp pd pt ps pr w10):=zak (HP5.out.none (zbv.of_below hbX));have q10:=zoy HPn.out;clear hb10 hc9' hbX q9;refine hK.out _ _ ?hS54 (fun hHeld=>?rest54)
           case hS54=>((try dsimp only);(exact⟨q10,hc10⟩))
           case' rest54=>(clear hK K;try simp only[PqL,Act.put])
           refine tkH 39 ?_;try simp only[PqL,Act.put]
           refine tkH 40 ?_;try simp only[PqL,Act.put]
           refine wpAnyH_done (by kernel_rfl) ?_ _;have hEnd:=hHeld.2
           repeat (clear hHeld)
           clear hc10 q10;go_wp2_with fail
           go_roundw
           case rel=>exact⟨k+1,by go_num,by omega,by omega,HPn,hbr10⟩
           case measure=>simp[intOf];omega
         · go_simp
           refine hK.out _ _ ?hS58 (fun hHeld=>?rest58)
           case hS58=>((try dsimp only);(exact⟨q3,hc5⟩))
           case' rest58=>(clear hK K;try simp only[PqL,Act.put])
           refine tkH 30 ?_;try simp only[PqL,Act.put]
           refine kRd 22 (fun K hK=>?_)
           go_simp
           refine (zim ps pd S5 A6 n6 c6 _ HSB.out).mono ?_;rintro e w7 ⟨rfl,hw7⟩;subst hw7;dsimp only;refine hK.out _ _ ?hS62 (fun hHeld=>?rest62)
           case hS62=>((try dsimp only);(exact⟨q3,hc5⟩))
           case' rest62=>(clear hK K;try simp only[PqL,Act.put])
           refine tkH 31 ?_;try simp only[PqL,Act.put]
           refine tkH 32 ?_;try simp only[PqL,Act.put]
           refine tkH 33 ?_;try simp only[PqL,Act.put]
           refine tkH 34 ?_;try simp only[PqL,Act.put]
           refine tkH 36 ?_;try simp only[PqL,Act.put]
           obtain⟨Fd,Fr,gl,n8,cl8,Av,cv,ds,es,Al2,cl2,Av2,cv2,ds2,es2,T⟩:=HC5.out.two;have hn8:n8≤1000:=by rw[T.hn];exact hLn
           have HTT:=zak T;clear T r1;refine kRd 35 (fun K hK=>?_)
           go_simp
           refine (zou _ HTT.out.d hn8).mono ?_;rintro e w8 ⟨A8,n9,c8,ds8,rfl,hO8,hap8,hb8⟩;dsimp only;have hn9:n9=n8:=by rw[hO8.hn,zh6 _ _ HTT.out.d.lenV,HTT.out.hn]
           subst hn9;have HO8:=zak hO8;have HB8:=zak hb8;have hc8:=HCW.out _ (hbr5.trans (hb8.mono hbr5.size));have q8:=zoy (HP5.out.none (zbv.of_below hb8));clear hO8 hap8 hb8 hc5;refine hK.out _ _ ?hS70 (fun hHeld=>?rest70)
           case hS70=>((try dsimp only);(exact⟨q8,hc8⟩))
           case' rest70=>(clear hK K;try simp only[PqL,Act.put])
           refine kRd 37 (fun K hK=>?_)
           go_simp
           refine (zov _ (HTT.out.r.below HB8.out) hn8).mono ?_;rintro e w9 ⟨A9,n10,c9,ds9,rfl,hO9,_,hb9⟩;dsimp only;have hn10:n10=n9:=by rw[hO9.hn,zh6 _ _ HTT.out.d.lenV,HTT.out.hn]
           subst hn10;have HO9:=zak hO9;have HB9:=zak (za5 hb9 HB8.out);have HB89:=zak hb9;have hc9':=HCW.out _ (hbr5.trans (HB9.out.mono hbr5.size));have q9:=zoy (HP5.out.none (zbv.of_below HB9.out));clear hO9 hb9 hc8 q8;refine hK.out _ _ ?hS73 (fun hHeld=>?rest73)
           case hS73=>((try dsimp only);(exact⟨q9,hc9'⟩))
           case' rest73=>(clear hK K;try simp only[PqL,Act.put])
           refine kRd 38 (fun K hK=>?_)
           go_simp
           refine (zmy A8 A9 n10 n10 c8 c9 (svL L V5) _ (by rw[zh6 _ _ HTT.out.d.lenV,HTT.out.hn]) (by rw[zh6 _ _ HTT.out.d.lenV,HTT.out.hn]) HO8.out.own.le HO9.out.own.le (by omega) (HO8.out.below HB89.out).slV HO9.out.slV).mono ?_;rintro e w10 ⟨rfl,hb10⟩;dsimp only;have hbX:=za5 hb10 HB9.out;have hbr10:Below w.heap.size w w10:=hbr5.trans (hbX.mono hbr5.size);have hc10:=HCW.out _ hbr10;have HPn:Hid (zoz w.heap.size L pp pd pt ps pr w10):=zak (HP5.out.none (zbv.of_below hbX));have q10:=zoy HPn.out;clear hb10 hc9' hbX q9;refine hK.out _ _ ?hS76 (fun hHeld=>?rest76)
           case hS76=>((try dsimp only);(exact⟨q10,hc10⟩))
           case' rest76=>(clear hK K;try simp only[PqL,Act.put])
           refine tkH 39 ?_;try simp only[PqL,Act.put]
           refine tkH 40 ?_;try simp only[PqL,Act.put]
           refine wpAnyH_done (by kernel_rfl) ?_ _;have hEnd:=hHeld.2
           repeat (clear hHeld)
           clear hc10 q10;go_wp2_with fail
           go_roundw
           case rel=>exact⟨k+1,by go_num,by omega,by omega,HPn,hbr10⟩
           case measure=>simp[intOf];omega
       · go_simp
         refine hK.out _ _ ?hS80 (fun hHeld=>?rest80)
         case hS80=>((try dsimp only);(exact⟨q3,hc5⟩))
         case' rest80=>(clear hK K;try simp only[PqL,Act.put])
         refine tkH 17 ?_;try simp only[PqL,Act.put]
         refine kRd 9 (fun K hK=>?_)
         go_simp
         refine (zil ps pd S5 A6 n6 c6 _ HSB.out).mono ?_;rintro e w6 ⟨rfl,hw6⟩;subst hw6;dsimp only;refine hK.out _ _ ?hS84 (fun hHeld=>?rest84)
         case hS84=>((try dsimp only);(exact⟨q3,hc5⟩))
         case' rest84=>(clear hK K;try simp only[PqL,Act.put])
         refine tkH 18 ?_;try simp only[PqL,Act.put]
         refine tkH 19 ?_;try simp only[PqL,Act.put]
         refine tkH 20 ?_;try simp only[PqL,Act.put]
         refine tkH 21 ?_;try simp only[PqL,Act.put]
         refine tkH 23 ?_;try simp only[PqL,Act.put]
         refine tkH 24 ?_;try simp only[PqL,Act.put]
         refine tkH 25 ?_;try simp only[PqL,Act.put]
         refine tkH 26 ?_;try simp only[PqL,Act.put]
         refine tkH 27 ?_;try simp only[PqL,Act.put]
         refine tkH 28 ?_;try simp only[PqL,Act.put]
         refine wpAnyH_ready (rs:=[22,29]) (by kernel_rfl) (by simp) (AllReadyH.cons (o:=_) rfl (fun K hK=>?_) (AllReadyH.cons (o:=_) rfl (fun K hK=>?_) .nil))
         · go_simp
           refine (zim ps pd S5 A6 n6 c6 _ HSB.out).mono ?_;rintro e w7 ⟨rfl,hw7⟩;subst hw7;dsimp only;refine hK.out _ _ ?hS96 (fun hHeld=>?rest96)
           case hS96=>((try dsimp only);(exact⟨q3,hc5⟩))
           case' rest96=>(clear hK K;try simp only[PqL,Act.put])
           refine kRd 29 (fun K hK=>?_)
           go_simp
           refine hK.out _ _ ?hS99 (fun hHeld=>?rest99)
           case hS99=>((try dsimp only);(exact⟨q3,hc5⟩))
           case' rest99=>(clear hK K;try simp only[PqL,Act.put])
           refine tkH 30 ?_;try simp only[PqL,Act.put]
           refine tkH 31 ?_;try simp only[PqL,Act.put]
           refine tkH 32 ?_;try simp only[PqL,Act.put]
           refine tkH 33 ?_;try simp only[PqL,Act.put]
           refine tkH 34 ?_;try simp only[PqL,Act.put]
           refine tkH 36 ?_;try simp only[PqL,Act.put]
           obtain⟨Fd,Fr,gl,n8,cl8,Av,cv,ds,es,Al2,cl2,Av2,cv2,ds2,es2,T⟩:=HC5.out.two;have hn8:n8≤1000:=by rw[T.hn];exact hLn
           have HTT:=zak T;clear T r1;refine kRd 35 (fun K hK=>?_)
           go_simp
           refine (zou _ HTT.out.d hn8).mono ?_;rintro e w8 ⟨A8,n9,c8,ds8,rfl,hO8,hap8,hb8⟩;dsimp only;have hn9:n9=n8:=by rw[hO8.hn,zh6 _ _ HTT.out.d.lenV,HTT.out.hn]
           subst hn9;have HO8:=zak hO8;have HB8:=zak hb8;have hc8:=HCW.out _ (hbr5.trans (hb8.mono hbr5.size));have q8:=zoy (HP5.out.none (zbv.of_below hb8));clear hO8 hap8 hb8 hc5;refine hK.out _ _ ?hS108 (fun hHeld=>?rest108)
           case hS108=>((try dsimp only);(exact⟨q8,hc8⟩))
           case' rest108=>(clear hK K;try simp only[PqL,Act.put])
           refine kRd 37 (fun K hK=>?_)
           go_simp
           refine (zov _ (HTT.out.r.below HB8.out) hn8).mono ?_;rintro e w9 ⟨A9,n10,c9,ds9,rfl,hO9,_,hb9⟩;dsimp only;have hn10:n10=n9:=by rw[hO9.hn,zh6 _ _ HTT.out.d.lenV,HTT.out.hn]
           subst hn10;have HO9:=zak hO9;have HB9:=zak (za5 hb9 HB8.out);have HB89:=zak hb9;have hc9':=HCW.out _ (hbr5.trans (HB9.out.mono hbr5.size));have q9:=zoy (HP5.out.none (zbv.of_below HB9.out));clear hO9 hb9 hc8 q8;refine hK.out _ _ ?hS111 (fun hHeld=>?rest111)
           case hS111=>((try dsimp only);(exact⟨q9,hc9'⟩))
           case' rest111=>(clear hK K;try simp only[PqL,Act.put])
           refine kRd 38 (fun K hK=>?_)
           go_simp
           refine (zmy A8 A9 n10 n10 c8 c9 (svL L V5) _ (by rw[zh6 _ _ HTT.out.d.lenV,HTT.out.hn]) (by rw[zh6 _ _ HTT.out.d.lenV,HTT.out.hn]) HO8.out.own.le HO9.out.own.le (by omega) (HO8.out.below HB89.out).slV HO9.out.slV).mono ?_;rintro e w10 ⟨rfl,hb10⟩;dsimp only;have hbX:=za5 hb10 HB9.out;have hbr10:Below w.heap.size w w10:=hbr5.trans (hbX.mono hbr5.size);have hc10:=HCW.out _ hbr10;have HPn:Hid (zoz w.heap.size L pp pd pt ps pr w10):=zak (HP5.out.none (zbv.of_below hbX));have q10:=zoy HPn.out;clear hb10 hc9' hbX q9;refine hK.out _ _ ?hS114 (fun hHeld=>?rest114)
           case hS114=>((try dsimp only);(exact⟨q10,hc10⟩))
           case' rest114=>(clear hK K;try simp only[PqL,Act.put])
           refine tkH 39 ?_;try simp only[PqL,Act.put]
           refine tkH 40 ?_;try simp only[PqL,Act.put]
           refine wpAnyH_done (by kernel_rfl) ?_ _;have hEnd:=hHeld.2
           repeat (clear hHeld)
           clear hc10 q10;go_wp2_with fail
           go_roundw
           case rel=>exact⟨k+1,by go_num,by omega,by omega,HPn,hbr10⟩
           case measure=>simp[intOf];omega
         · go_simp
           refine hK.out _ _ ?hS118 (fun hHeld=>?rest118)
           case hS118=>((try dsimp only);(exact⟨q3,hc5⟩))
           case' rest118=>(clear hK K;try simp only[PqL,Act.put])
           refine tkH 30 ?_;try simp only[PqL,Act.put]
           refine kRd 22 (fun K hK=>?_)
           go_simp
           refine (zim ps pd S5 A6 n6 c6 _ HSB.out).mono ?_;rintro e w7 ⟨rfl,hw7⟩;subst hw7;dsimp only;refine hK.out _ _ ?hS122 (fun hHeld=>?rest122)
           case hS122=>((try dsimp only);(exact⟨q3,hc5⟩))
           case' rest122=>(clear hK K;try simp only[PqL,Act.put])
           refine tkH 31 ?_;try simp only[PqL,Act.put]
           refine tkH 32 ?_;try simp only[PqL,Act.put]
           refine tkH 33 ?_;try simp only[PqL,Act.put]
           refine tkH 34 ?_;try simp only[PqL,Act.put]
           refine tkH 36 ?_;try simp only[PqL,Act.put]
           obtain⟨Fd,Fr,gl,n8,cl8,Av,cv,ds,es,Al2,cl2,Av2,cv2,ds2,es2,T⟩:=HC5.out.two;have hn8:n8≤1000:=by rw[T.hn];exact hLn
           have HTT:=zak T;clear T r1;refine kRd 35 (fun K hK=>?_)
           go_simp
           refine (zou _ HTT.out.d hn8).mono ?_;rintro e w8 ⟨A8,n9,c8,ds8,rfl,hO8,hap8,hb8⟩;dsimp only;have hn9:n9=n8:=by rw[hO8.hn,zh6 _ _ HTT.out.d.lenV,HTT.out.hn]
           subst hn9;have HO8:=zak hO8;have HB8:=zak hb8;have hc8:=HCW.out _ (hbr5.trans (hb8.mono hbr5.size));have q8:=zoy (HP5.out.none (zbv.of_below hb8));clear hO8 hap8 hb8 hc5;refine hK.out _ _ ?hS130 (fun hHeld=>?rest130)
           case hS130=>((try dsimp only);(exact⟨q8,hc8⟩))
           case' rest130=>(clear hK K;try simp only[PqL,Act.put])
           refine kRd 37 (fun K hK=>?_)
           go_simp
           refine (zov _ (HTT.out.r.below HB8.out) hn8).mono ?_;rintro e w9 ⟨A9,n10,c9,ds9,rfl,hO9,_,hb9⟩;dsimp only;have hn10:n10=n9:=by rw[hO9.hn,zh6 _ _ HTT.out.d.lenV,HTT.out.hn]
           subst hn10;have HO9:=zak hO9;have HB9:=zak (za5 hb9 HB8.out);have HB89:=zak hb9;have hc9':=HCW.out _ (hbr5.trans (HB9.out.mono hbr5.size));have q9:=zoy (HP5.out.none (zbv.of_below HB9.out));clear hO9 hb9 hc8 q8;refine hK.out _ _ ?hS133 (fun hHeld=>?rest133)
           case hS133=>((try dsimp only);(exact⟨q9,hc9'⟩))
           case' rest133=>(clear hK K;try simp only[PqL,Act.put])
           refine kRd 38 (fun K hK=>?_)
           go_simp
           refine (zmy A8 A9 n10 n10 c8 c9 (svL L V5) _ (by rw[zh6 _ _ HTT.out.d.lenV,HTT.out.hn]) (by rw[zh6 _ _ HTT.out.d.lenV,HTT.out.hn]) HO8.out.own.le HO9.out.own.le (by omega) (HO8.out.below HB89.out).slV HO9.out.slV).mono ?_;rintro e w10 ⟨rfl,hb10⟩;dsimp only;have hbX:=za5 hb10 HB9.out;have hbr10:Below w.heap.size w w10:=hbr5.trans (hbX.mono hbr5.size);have hc10:=HCW.out _ hbr10;have HPn:Hid (zoz w.heap.size L pp pd pt ps pr w10):=zak (HP5.out.none (zbv.of_below hbX));have q10:=zoy HPn.out;clear hb10 hc9' hbX q9;refine hK.out _ _ ?hS136 (fun hHeld=>?rest136)
           case hS136=>((try dsimp only);(exact⟨q10,hc10⟩))
           case' rest136=>(clear hK K;try simp only[PqL,Act.put])
           refine tkH 39 ?_;try simp only[PqL,Act.put]
           refine tkH 40 ?_;try simp only[PqL,Act.put]
           refine wpAnyH_done (by kernel_rfl) ?_ _;have hEnd:=hHeld.2
           repeat (clear hHeld)
           clear hc10 q10;go_wp2_with fail
           go_roundw
           case rel=>exact⟨k+1,by go_num,by omega,by omega,HPn,hbr10⟩
           case measure=>simp[intOf];omega
     · have hlt':m≤k∨(k < m∧80≤k):=by omega
       rcases hlt' with h | ⟨h1,h2⟩
       all_goals
        go_wp2_with fail
        refine (zn4 _).mono ?_;rintro e wz ⟨rfl,hbz⟩;go_wp2_with fail
        go_ret
        exact (⟨rfl,za5 hbz hbr⟩:TrueB w _ _)
  · have hp:=h2 her;subst hp;have hez:(er' == 0)=false:=by simpa using her
    clear h2 h3 h3' hnp hnp';go_wp2_with fail
    refine (zn4 _).mono ?_;rintro e wz ⟨rfl,hbz⟩;go_wp2_with fail
    go_ret
    exact (⟨rfl,za5 hbz hb13⟩:TrueB w _ _)
end
end Go.Proofs.YtkkpjbjmhaecjaaGreat
