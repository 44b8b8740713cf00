/- None -/
import Derived.Test.YtkkpjbjmhaecjaaGreatT44
namespace Go.Proofs.YtkkpjbjmhaecjaaGreat
set_option linter.all false
set_option maxRecDepth 100000
set_option maxHeartbeats 8000000
section
open Go.RowKit Go.Maps
section
variable {w0:World} {G:Nat→Prop} {p m:Nat} {ks:List KB} {rs:List RB}
theorem zxg (em:Int)(sum:Nat)(h:sum≤65535):∀M ∈ [bdeM em sum],MsOk M:=by
 intro M hM;simp at hM;subst hM;exact⟨Nat.zero_le _,Nat.zero_le _,h⟩
theorem zxh (tot h:Nat)(b:List UInt8)(k:Nat):∀M ∈ crowT tot h b k,MsOk M:=by
 intro M hM;unfold crowT at hM;rw[List.mem_map] at hM;obtain⟨i,_,rfl⟩:=hM;exact⟨Nat.zero_le _,Nat.zero_le _,Nat.zero_le _⟩
theorem zxi (tot h:Nat)(b:List UInt8)(k:Nat):crowT tot h b (k+1)=crowT tot h b k ++ [bsegM ((k:Int)+1) (decide ((h:Int)+(k:Int)+1=(tot:Int))) (bpiece b (h+k))]:=by
 unfold crowT;rw[List.range_succ,List.map_append]
 rfl
theorem zxj (tot h:Nat)(b:List UInt8)(k:Nat):(crowT tot h b k).length=k:=by simp[crowT]
theorem CM.self {wk:Int}{cs:List Value}{W:World}(h:CM w0 G p m wk cs ks rs W):CM W (fun _=>False) p m wk cs ks [] W:=⟨h.blk,h.wm,zd0.of_below (Below.refl _ _),h.keep,fun r hr=>by cases hr⟩
theorem CM.join {wk wk':Int}{cs cs':List Value}{W W':World}(h:CM w0 G p m wk cs ks rs W)(k:CM W (fun _=>False) p m wk' cs' ks [] W'):CM w0 G p m wk' cs' ks rs W':=
 ⟨k.blk,k.wm,h.only.trans k.only (fun i _ e=>by
   rcases e with e | e | e
   · exact .inl e
   · exact .inr (.inl e)
   · exact e.elim),k.keep,fun r hr=>⟨⟨(h.rows r hr).1.hn,(h.rows r hr).1.own.keep fun g _ hlt hA=>k.only.block g hlt (by
     rintro (e | e | e)
     · exact zek (h.rows r hr).1 h.blk zel g hA e
     · exact h.wm.row_ne (h.rows r hr).1.own g hA e
     · exact e)⟩,(h.rows r hr).2⟩⟩
theorem zxk (S:CliS)(R:CR)(most:Int)(W:World)(h:CM w0 G p m S.wk (cliL S m R) ks rs W)(hw:0≤S.wk∧S.wk≤21)(hE:EOk S R)(hb:⟨R.A,R.n,R.c,S.b⟩ ∈ rs)(hn2:R.n2=S.data.length)(hd:S.data= [])(hl:S.b.length≤100000)(hge:(btotal S.b:Int)≤ S.at_) :
 Calls Tryz.prog 192 #[.pointer (some ⟨p,0,none⟩),.int .i64 most] W (zw3 w0 G p m (cRowsS S most) (cRowsL S most)):=by
 have hnr:R.n=S.b.length:=(h.rows _ hb).1.hn;have HNR:=zak hnr;have HC:=zak h;have HE:=zak hE;have HW:=zak hw;have HBB:=zak hb;have HN2:=zak hn2;have HD:=zak hd;have hb1:R.n≤100000:=by omega
 obtain⟨P,hP⟩:∃P,P=zw3 w0 G p m (cRowsS S most) (cRowsL S most):=⟨_,rfl⟩;have HP:Hid (P=zw3 w0 G p m { S with wk:=18 } (cSend S [bdeM (7 * (btotal S.b:Int) - S.b.length) (sum16L S.b)])):=zak (by
  rw[hP];unfold cRowsS cRowsL;rw[if_pos hge,if_pos hge])
 rw[←hP];have z:=h.lt;have c18:W.cell? ⟨p,18,none⟩=some (.int .i64 S.at_):=h.blk.cell 18 rfl;obtain⟨tot,htot⟩:∃tot,tot=btotal S.b:=⟨_,rfl⟩;have HT:=zak htot;have ht1:tot≤100000:=by rw[htot];unfold btotal;omega
 rw[←htot] at hge;clear h hw hE hb hn2 hd hl hP hnr htot;go_enter Tryz.func192,Tryz.ntmps192
 go_wp2_with fail
 refine (zwu S R _ HC.out HNR.out hb1).mono ?_;rintro e w1 ⟨rfl,hw1⟩;subst hw1;rw[←HT.out];go_wp2_with fail
 refine (zem 18 _ HC.out rfl HW.out ⟨by omega,by omega⟩).mono ?_;rintro e W1 ⟨rfl,h1⟩;have H1:Hid (CM w0 G p m 18 (cliL { S with wk:=18 } m R) ks rs W1):=zak h1;have z1:=h1.lt;have c17:W1.cell? ⟨p,17,none⟩=some (.slice R.A R.n R.c):=h1.blk.cell 17 rfl;clear h1 HC c18 z hge;have hw7:IntKind.i64.wrap ((tot:Int) * 7 - (R.n:Int))=(tot:Int) * 7 - (R.n:Int):=by unfold IntKind.wrap;simp[IntKind.signed,IntKind.bits];omega
 have hw8:IntKind.i64.wrap ((tot:Int) * 7)=(tot:Int) * 7:=by unfold IntKind.wrap;simp[IntKind.signed,IntKind.bits];omega
 go_upto_region 4 with fail
 refine wp_region_held_drew (S:=(fun w'=>(∀qA:Addr,qA.block < (W1).heap.size→w'.cell? qA=(W1).cell? qA)∧ Below (W1).heap.size (W1) w')) (by kernel_rfl) ?hS1 (fun hHeld=>?rest1)
 case hS1=>exact kSn
 case' rest1=>skip
 iterate 13 (refine tkN ?_;try simp only[PqL,Act.put])
 refine kRd 13 (fun K hK=>?_)
 go_simp
 refine (zmo R.A R.n R.c S.b _ HNR.out (by omega) ((H1.out.step kBl).rows _ HBB.out).1.sl).mono ?_;rintro e W3 ⟨rfl,hb3⟩;have hb3':Below W1.heap.size W1 W3:=zc4 hb3 (zdr (Below.refl _ _));have H3:=zak (H1.out.step hb3');clear hb3;refine hK.out _ _ ?hS17 (fun hHeld=>?rest17)
 case hS17=>exact kSn
 case' rest17=>(clear hK K;try simp only[PqL,Act.put])
 refine tkH 14 ?_;try simp only[PqL,Act.put]
 have HD9:=zak (H3.out.alloc (.cells (msV (bdeM ((tot:Int) * 7 - (R.n:Int)) (sum16L S.b)) none 0 0) 95));have HB9:=zak (zdg W3 95 (msV (bdeM ((tot:Int) * 7 - (R.n:Int)) (sum16L S.b)) none 0 0));unfold msV bdeM at HD9 HB9;refine kRd 15 (fun K hK=>?_)
 go_simp
 refine hK.out _ _ ?hS21 (fun hHeld=>?rest21)
 case hS21=>exact kSn
 case' rest21=>(clear hK K;try simp only[PqL,Act.put])
 refine kRd 16 (fun K hK=>?_)
 go_simp
 refine (zhb p (1536+S.nd) [bdeM ((tot:Int) * 7 - (R.n:Int)) (sum16L S.b)] _ 1 1 _ (HD9.out.blk.cell 1 rfl) rfl (zg4 (M:=bdeM ((tot:Int) * 7 - (R.n:Int)) (sum16L S.b)) HB9.out rfl (Sl.nil _ _)) (zxg _ _ (by have:=zcn S.b;unfold U16 at this;omega)) (by omega)).mono ?_;rintro e w6 ⟨As,ns,cs,ds,rfl,hO,hb⟩;have HF:=zak (zwm (S:={ S with wk:=18 }) (R:=R) (L:=[bdeM ((tot:Int) * 7 - (R.n:Int)) (sum16L S.b)]) HD9.out HE.out (fun _=>HBB.out) HN2.out (fun h=>absurd HD.out h) ⟨As,ns,cs,ds,rfl,hO,hb⟩);clear hO;refine hK.out _ _ ?hS24 (fun hHeld=>?rest24)
 case hS24=>exact kSn
 case' rest24=>(clear hK K;try simp only[PqL,Act.put])
 refine tkH 17 ?_;try simp only[PqL,Act.put]
 refine wpAnyH_done (by kernel_rfl) ?_ _;have hEnd:=hHeld.2
 repeat (clear hHeld)
 go_wp2_with fail
 rw[HP.out,show 7 * (btotal S.b:Int) - (S.b.length:Int)=(tot:Int) * 7 - (R.n:Int) by rw[←HT.out,←HNR.out];omega];exact HF.out
def RowL (W2:World) (b:List UInt8) (r tot a:Nat) (vl vi:Value) (wr:World):Prop:=
 ∃k A' c' ds,vi= .int .i64 (k:Nat)∧ vl= .slice A' k c'∧k≤r∧OwnM wr (fun g=>W2.heap.size≤g) A' k c' (crowT tot a b k) ds∧Below W2.heap.size W2 wr
theorem zxl (S:CliS)(R:CR)(most:Int)(W:World)(h:CM w0 G p m S.wk (cliL S m R) ks rs W)(hw:0≤S.wk∧S.wk≤21)(hE:EOk S R)(hb:⟨R.A,R.n,R.c,S.b⟩ ∈ rs)(hn2:R.n2=S.data.length)(hd:S.data= [])(hl:S.b.length≤100000)(a:Nat)(ha:S.at_=(a:Int))(hlt:a < btotal S.b)(hm:0≤most∧most≤1000) :
 Calls Tryz.prog 192 #[.pointer (some ⟨p,0,none⟩),.int .i64 most] W (zw3 w0 G p m (cRowsS S most) (cRowsL S most)):=by
 have hnr:R.n=S.b.length:=(h.rows _ hb).1.hn;have hrc:R.n≤R.c:=(h.rows _ hb).1.le;have HNR:=zak hnr;have HC:=zak h;have HE:=zak hE;have HW:=zak hw;have HBB:=zak hb;have HN2:=zak hn2;have HD:=zak hd;have hb1:R.n≤100000:=by omega
 obtain⟨tot,htot⟩:∃tot,tot=btotal S.b:=⟨_,rfl⟩;have HT:=zak htot;have ht1:tot≤100000:=by rw[htot];unfold btotal;omega
 rw[←htot] at hlt;obtain⟨r,hr⟩:∃r:Nat,(r:Int)=min most ((tot:Int) - (a:Int)):=⟨(min most ((tot:Int) - (a:Int))).toNat,by omega⟩;have hr1:r≤1000:=by omega
 have hra:a+r≤tot:=by omega
 have hmin1:(if (tot:Int) - (a:Int) < most then (tot:Int) - (a:Int) else most)=(r:Int):=by split<;>omega
 have hrow:cRowN S most=(r:Int):=by unfold cRowN;rw[ha,←htot,hr]
 obtain⟨P,hP⟩:∃P,P=zw3 w0 G p m (cRowsS S most) (cRowsL S most):=⟨_,rfl⟩;have hnl: ¬(btotal S.b:Int)≤ S.at_:=by rw[ha,←htot];omega
 have HP:Hid (P=zw3 w0 G p m { S with ro:=(r:Int),wk:=17 } (cSend S (crowT tot a S.b r))):=zak (by
  rw[hP];unfold cRowsS cRowsL cRowM;rw[if_neg hnl,if_neg hnl,hrow,←htot,ha];rfl)
 rw[←hP];have z:=h.lt;have c18:W.cell? ⟨p,18,none⟩=some (.int .i64 (a:Int)):=by rw[←ha];exact h.blk.cell 18 rfl
 have c19:W.cell? ⟨p,19,none⟩=some (.int .i64 S.ro):=h.blk.cell 19 rfl;have f19:=h.blk.frozen 19;have HA:=zak ha;have hat: ¬(tot:Int)≤ (a:Int):=by omega
 clear h hw hE hb hn2 hd hl hP hnr htot hr hrow hnl ha hm;obtain⟨i0,hi0,hz0,hz1,hz2⟩:=info_parts zgv;go_enter Tryz.func192,Tryz.ntmps192
 go_wp2_with fail
 refine (zwu S R _ HC.out HNR.out hb1).mono ?_;rintro e w1 ⟨rfl,hw1⟩;subst hw1;rw[←HT.out];have H2:Hid (CM w0 G p m S.wk (cliL { S with ro:=(r:Int) } m R) ks rs (W.setCell ⟨p,19,none⟩ (.int .i64 (r:Int)))):=zak (HC.out.set 19 _);go_upto_region 7 with fail
 refine zed (P:=CM w0 G p m S.wk (cliL { S with ro:=(r:Int) } m R) ks rs) H2.out (fun W2 h2=>?_);clear H2 HC c18 c19 f19 z;have HC:=zak h2;have z:=h2.lt;have c19:W2.cell? ⟨p,19,none⟩=some (.int .i64 (r:Int)):=h2.blk.cell 19 rfl;clear h2;go_wp2_with fail
 go_loopw [6,7,8,9,52,53,54,55,56,57,58,59,60,61,62,63,64,65,66,67,68,69,70,71,72,73,74,75,76,77,78,79,80,81,82] (fun vl _ _ _ vi _ _ _ _ _ _ _ _ _ _ _ _ _ _ _ _ _ _ _ _ _ _ _ _ _ _ _ _ _ _ wr=>RowL W2 S.b r tot a vl vi wr) (fun _ _ _ _ vi _ _ _ _ _ _ _ _ _ _ _ _ _ _ _ _ _ _ _ _ _ _ _ _ _ _ _ _ _ _ _=>r - (intOf vi).toNat)
 case atStart=>exact⟨0,none,0,[],rfl,rfl,Nat.zero_le _,zd8.nil _ _,Below.refl _ _⟩
 case round=>
  obtain⟨k,A',c',ds,rfl,rfl,hk,hOM,hbr⟩:=hrel;have HOM:=zak hOM;have HBR:=zak hbr;have HCr:=zak (HC.out.step hbr);have zr:=HCr.out.lt;have hzr:=hbr.size;by_cases hlt2:k < r
  · obtain⟨kk,hkk⟩:∃kk,kk=a+k:=⟨_,rfl⟩;have hki:(a:Int)+(k:Int)=(kk:Int):=by omega
    have hkk2:kk≤200000:=by omega
    have h7k:7 * kk≤R.n:=by
     have h1:=HT.out;have h2:=HNR.out;unfold btotal at h1;omega
    have hcut:=fun W=>zdy R.A R.n R.c (7 * kk) ((kk:Int) * 7) .i64 (by omega) h7k hrc W
    have HEE:Hid ((S.b.drop (7 * kk)).take 7 ++ (List.replicate 7 0).drop (R.n - 7 * kk)=bpiece S.b kk):=zak (by
     unfold bpiece;rw[List.drop_replicate,HNR.out])
    have HKK:=zak hkk;have c18:wr.cell? ⟨p,18,none⟩=some (.int .i64 (a:Int)):=by rw[←HA.out];exact HCr.out.blk.cell 18 rfl
    clear hOM hbr hkk;go_upto_region 12 with (at_make;refine mk_b _ rfl _ _ rfl .i64 .i64 7 7 7 7 rfl rfl rfl rfl (Nat.le_refl _) (by omega) wr.heap.size rfl ?_;intro w6 hO6 hz6 hb6;have HO6:=zak hO6;clear hO6)
    have HC6:=zak (HCr.out.step hb6);have HM6:=zak (HOM.out.below hb6);have HBL6:=zak (zc4 hb6 HBR.out);have HB6:=zak hb6;have zp6:=HC6.out.lt;have c17:w6.cell? ⟨p,17,none⟩=some (.slice R.A R.n R.c):=HC6.out.blk.cell 17 rfl;obtain⟨Am,hAm⟩:∃Am,Am=cutA R.A R.c (7 * kk) 1:=⟨_,rfl⟩;rw[←hAm] at hcut;have HSd:Hid (Sl w6 Am ((S.b.drop (7 * kk)).map bv)):=zak (by
     rw[hAm];have h2:=((HC6.out.rows _ HBB.out).1.sl).cutA (k:=7 * kk) (c:=R.c) (s:=1) (by simp;have:=HNR.out;omega) (by omega);rw[Nat.mul_one,←List.map_drop] at h2;exact h2)
    have HDL:Hid (R.n - 7 * kk=(S.b.drop (7 * kk)).length):=zak (by rw[List.length_drop,←HNR.out]);clear hb6 hAm;go_upto_region 13 with (with_reducible refine cpy_b _ rfl (.tmp 62) (.tmp 69) rfl wr.heap.size _ 7 _ rfl HO6.out _ _ _ (S.b.drop (7 * kk)) rfl HDL.out HSd.out (Nat.le_of_lt hz6) (bpiece S.b kk) HEE.out ?_;intro w7 hO7 hg7 hb7;have HO7:=zak hO7;have HB7:=zak hb7;clear hO7 hg7)
    obtain⟨dd,hdd⟩:∃dd,dd=bpiece S.b kk:=⟨_,rfl⟩;have hdl:dd.length=7:=by rw[hdd];unfold bpiece;simp only[List.length_append,List.length_take,List.length_drop,List.length_replicate];omega
    obtain⟨la,hla⟩:∃la,la=decide ((a:Int)+(k:Int)+1=(tot:Int)):=⟨_,rfl⟩;have hlb:((kk:Int)+1 == (tot:Int))=la:=by
     rw[hla,←hki];by_cases hx:(a:Int)+(k:Int)+1=(tot:Int)
     · simp[hx]
     · simp[hx]
    have hb7:=HB7.out;have HM7:=zak (((HOM.out.mono (G:=fun g=>W2.heap.size≤g∧g < wr.heap.size) (fun g h1 h2=>⟨h2,h1⟩)).keep (w':=w6) (fun g hg _=>HB6.out.block g hg.2)).keep (w':=w7) (fun g hg _=>hb7.block g hg.2));have HBL7:=zak (HBL6.out.trans (hb7.mono hzr));have HC7:Hid (∀o:Obj,OwnM (w7.alloc o) (fun g=>W2.heap.size≤g) A' k c' (crowT tot a S.b k) ds):=zak (fun o=>(HM7.out.below (zc5 (Below.refl _ _) o)).mono (fun g _ hg=>hg.1));have HOd:Hid (∀o:Obj,zdv (w7.alloc o) 0 (some ⟨wr.heap.size,0,none⟩) dd.length 7 dd):=zak (fun o=>by rw[hdl,hdd];exact (HO7.out.alloc o).mono (Nat.zero_le _));have HDL2:=zak hdl
    have HDD:=zak hdd;have HLA:=zak hla;clear hb7 hdl hdd hla c17 c18 hcut HC6 HM6 HSd;go_wp2_with (at_builtin;refine zd9 _ rfl _ _ 91 rfl zgt zgu (by decide) i0 _ 96 Tryz.underlying91 hi0 hz0 hz1 hz2 rfl (by omega) (by omega) A' k c' (crowT tot a S.b k) ds rfl (HC7.out _) (⟨21,0,0,false,la,false,false,0,0,dd,(k:Int)+1,0,0,0⟩:Ms) (some ⟨wr.heap.size,0,none⟩,7) _ rfl (by simp only[msF];rw[HDL2.out];exact (Blk.new _ _ _).sl) (HOd.out _) (by intro g hg;injection hg with hg;injection hg with hg;subst hg;exact hzr) (fun g hg=>by have hz9:=HBL7.out.size;simp at hg;omega) (by omega) (k+1) rfl ?_;intro A4 c4 w9 hO9 hg9 hA9)
    have hgo:=zd0.of_grown (F:=fun g=>W2.heap.size≤g) hg9 (fun q hq=>(zha HM7.out hq).1);have HB9:=zak ((zc5 HBL7.out _).trans (hgo.below (N:=W2.heap.size) (by have:=HBL7.out.size;simp;omega) (fun q hq=>hq)));have HO9:=zak hO9;clear hO9 hg9 hA9 hgo;refine⟨?_,?_⟩
    · repeat apply Exists.intro
      refine⟨?h,by rw[show decide (tot≤a)=false from decide_eq_false (by omega)]⟩;refine⟨k+1,A4,c4,ds ++ [(some ⟨wr.heap.size,0,none⟩,7)],by go_num,rfl,by omega,?_,HB9.out⟩;rw[zxi];have h9:=HO9.out;rw[HLA.out,HDD.out,HKK.out] at h9;exact h9
    · simp[intOf];omega
  · obtain rfl:k=r:=by omega
    have HW3:=zak (HC.out.step hbr);clear hOM hbr;go_wp2_with fail
    refine (zem 17 _ HW3.out.self rfl HW.out ⟨by omega,by omega⟩).mono ?_;rintro e W4 ⟨rfl,h4⟩;have HO4:=zak (HOM.out.keep (w':=W4) (fun g hg hlt=>h4.only.block g hlt (by
     have h1:=HC.out.lt;have h2:=HC.out.wm.lt;rintro (e | e | e)
     · omega
     · omega
     · exact e)))
    have H4:Hid (CM w0 G p m 17 (cliL { S with ro:=(k:Int),wk:=17 } m R) ks rs W4):=zak (HW3.out.join h4);have z4:=H4.out.lt;clear h4 HW3 HOM HBR;go_wp2_with fail
    refine (zhb p (1536+S.nd) (crowT tot a S.b k) _ _ _ _ (H4.out.blk.cell 1 rfl) (zxj _ _ _ _).symm (zg6 HO4.out) (zxh _ _ _ _) (by omega)).mono ?_;rintro e w6 ⟨As,ns,cs,ds,rfl,hO,hb⟩;have HF:=zak (zwm (S:={ S with ro:=(k:Int),wk:=17 }) (R:=R) H4.out HE.out (fun _=>HBB.out) HN2.out (fun h=>absurd HD.out h) ⟨As,ns,cs,ds,rfl,hO,hb⟩);clear hO;go_wp2_with fail
    rw[HP.out];exact HF.out
end
end
end Go.Proofs.YtkkpjbjmhaecjaaGreat
