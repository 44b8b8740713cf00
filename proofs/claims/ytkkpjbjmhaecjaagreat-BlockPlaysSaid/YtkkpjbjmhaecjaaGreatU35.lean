/- None -/
import Derived.Test.YtkkpjbjmhaecjaaGreatU23
namespace Go.Proofs.YtkkpjbjmhaecjaaGreat
set_option linter.all false
set_option maxRecDepth 100000
set_option maxHeartbeats 8000000
section
open Go.RowKit
theorem zl5 {S:BlkS}(h:S.st=0):blkIdle S=S:=by
 cases S
 simp only at h;subst h
 rfl
theorem zl6 (p pd:Nat)(S:BlkS)(G:Nat→Prop)(ix sub:Int)(tg la cr sz:Bool)(size code:Nat)(data:List UInt8)(sq bl em:Int)(sum:Nat)(A3:Option Addr)(m3 c3:Nat)(w:World)(hS:BV_ w G p pd S) :
 Calls Tryz.prog 36 #[.pointer (some ⟨p,0,none⟩),.agg (msV (⟨1,ix,sub,tg,la,cr,sz,size,code,data,sq,bl,em,sum⟩:Ms) A3 m3 c3)] w (BOutR w G p pd (blkIdle S) outZ):=by
 obtain⟨P,hP⟩:∃P,P=BOutR w G p pd (blkIdle S) outZ:=⟨_,rfl⟩;rw[←hP];have HP:=zak hP;obtain⟨s,hst⟩:∃s,s=S.st:=⟨_,rfl⟩;obtain⟨A,n1,c1,hB,_⟩:=id hS;have hz:=hB.lt;have hne1:p≠w.heap.size+1:=by omega
 have hne0:w.heap.size≠p:=by omega
 have HX:=zak (zi4 (S:=S) (pd:=pd) (A:=A) (n1:=n1) (c1:=c1) (⟨1,ix,sub,tg,la,cr,sz,size,code,data,sq,bl,em,sum⟩:Ms) A3 m3 c3 hB);have HB0:=zak (za7 (za7 (Below.refl w.heap.size w) (.cells (msV (⟨1,ix,sub,tg,la,cr,sz,size,code,data,sq,bl,em,sum⟩:Ms) A3 m3 c3) 95)) (.cells (outV none 0 0 outZ none 0 0) 93));have HS0:=zak hS;clear hP hS hB;unfold msV outV outZ at HX HB0;unfold msV;go_enter Tryz.func36,Tryz.ntmps36
 go_upto_region 1 with fail
 refine zb6 (P:=fun W=>BX w p pd (KMO w (⟨1,ix,sub,tg,la,cr,sz,size,code,data,sq,bl,em,sum⟩:Ms) A3 m3 c3) S A n1 c1 W∧Below w.heap.size w W) ⟨HX.out,HB0.out⟩ (fun W hW=>?_);clear HX HB0;obtain⟨hX,hbw⟩:=hW;have HX:=zak hX;have HBW:=zak hbw;have k1:=hX.msg;have bb:=hX.2.1;have zW:=bb.lt;have zk1:=k1.lt;have zo1:=hX.out.lt;unfold msV at k1;unfold bsrV at bb;dsimp only at bb k1;rw[←hst] at bb;obtain⟨am,ai,aj,an,ah,ak,al,ao,ap,aq,aa,ab,ac,ae⟩:=zbd k1;have aD:=k1.frozen;obtain⟨ar,au,av,aw,ax,ay,az,aA,aB,aC,af,ag⟩:=zbc bb;have aE:=bb.frozen;clear hX hbw;have XI:=zak (HX.out.sets (S':=blkIdle S) [.int .i64 0] 7 (by simp) rfl)
 simp only[World.setCells] at XI;clear hst;by_cases h3:s=3
 · subst h3;go_upto_region 6 with fail
   refine zb6 (P:=BX w p pd (KMO w (⟨1,ix,sub,tg,la,cr,sz,size,code,data,sq,bl,em,sum⟩:Ms) A3 m3 c3) (blkIdle S) A n1 c1) XI.out (fun W2 hW2=>?_);clear XI;clear am ai aj an ah ak al ao ap aq aa ab ac ae aD;clear ar au av aw ax ay az aA aB aC af ag aE;clear k1 bb;have HX3:=zak hW2;have k2:=hW2.out;unfold outV outZ at k2;obtain⟨aF,aG,aH,aI,aJ⟩:=za9 k2;have aP:=k2.frozen;clear hW2;go_wp2_with fail
   obtain⟨F1,F2⟩:=zi2 (G:=G) HX3.out.out (zi0 HX3.out.2.1) HX3.out.1 hz;rw[←HP.out] at F2;unfold putO outZ at F1 F2;dsimp only at F1 F2;refine zhr (O:=⟨[],false,0,0,[]⟩) rfl rfl rfl F1 ?_;exact F2
 · have h3n:(s == 3)=false:=by simp[h3]
   go_wp2_with fail
   refine (ziq 1 _).mono ?_;rintro e w1 ⟨rfl,hw1⟩;subst hw1;rw[show (decide ((1:Int)=1∨(1:Int)=6∨(1:Int)=8))=true by decide];go_upto_region 6 with fail
   refine zb6 (P:=BX w p pd (KMO w (⟨1,ix,sub,tg,la,cr,sz,size,code,data,sq,bl,em,sum⟩:Ms) A3 m3 c3) (blkIdle S) A n1 c1) XI.out (fun W2 hW2=>?_);clear XI;clear am ai aj an ah ak al ao ap aq aa ab ac ae aD;clear ar au av aw ax ay az aA aB aC af ag aE;clear k1 bb;have HX3:=zak hW2;have k2:=hW2.out;unfold outV outZ at k2;obtain⟨aF,aG,aH,aI,aJ⟩:=za9 k2;have aP:=k2.frozen;clear hW2;go_wp2_with fail
   obtain⟨F1,F2⟩:=zi2 (G:=G) HX3.out.out (zi0 HX3.out.2.1) HX3.out.1 hz;rw[←HP.out] at F2;unfold putO outZ at F1 F2;dsimp only at F1 F2;refine zhr (O:=⟨[],false,0,0,[]⟩) rfl rfl rfl F1 ?_;exact F2
theorem zl7 (p pd:Nat)(S:BlkS)(G:Nat→Prop)(kd:Int)(ix sub:Int)(tg la cr sz:Bool)(size code:Nat)(data:List UInt8)(sq bl em:Int)(sum:Nat)(A3:Option Addr)(m3 c3:Nat)(w:World)(hS:BV_ w G p pd S)(hs0:S.st≠0)(hs3:S.st≠3)(hk1:kd≠1)(hk6:kd≠6)(hk8:kd≠8)(hno: ¬(kd=21∧S.st=1)∧ ¬(kd=7∧S.st=2)∧ ¬(kd=9∧S.st=4)∧ ¬(kd=10∧S.st=5)∧ ¬(kd=11∧S.st=6)) :
 Calls Tryz.prog 36 #[.pointer (some ⟨p,0,none⟩),.agg (msV (⟨kd,ix,sub,tg,la,cr,sz,size,code,data,sq,bl,em,sum⟩:Ms) A3 m3 c3)] w (BOutR w G p pd (blkIdle S) (outM (abM S.ix S.sub 84148225))):=by
 obtain⟨P,hP⟩:∃P,P=BOutR w G p pd (blkIdle S) (outM (abM S.ix S.sub 84148225)):=⟨_,rfl⟩;rw[←hP];have HP:=zak hP;obtain⟨s,hst⟩:∃s,s=S.st:=⟨_,rfl⟩;obtain⟨A,n1,c1,hB,_⟩:=id hS;have hz:=hB.lt;have hne1:p≠w.heap.size+1:=by omega
 have hne0:w.heap.size≠p:=by omega
 have HX:=zak (zi4 (S:=S) (pd:=pd) (A:=A) (n1:=n1) (c1:=c1) (⟨kd,ix,sub,tg,la,cr,sz,size,code,data,sq,bl,em,sum⟩:Ms) A3 m3 c3 hB);have HB0:=zak (za7 (za7 (Below.refl w.heap.size w) (.cells (msV (⟨kd,ix,sub,tg,la,cr,sz,size,code,data,sq,bl,em,sum⟩:Ms) A3 m3 c3) 95)) (.cells (outV none 0 0 outZ none 0 0) 93));have HS0:=zak hS;clear hP hS hB;unfold msV outV outZ at HX HB0;unfold msV;go_enter Tryz.func36,Tryz.ntmps36
 go_upto_region 1 with fail
 refine zb6 (P:=fun W=>BX w p pd (KMO w (⟨kd,ix,sub,tg,la,cr,sz,size,code,data,sq,bl,em,sum⟩:Ms) A3 m3 c3) S A n1 c1 W∧Below w.heap.size w W) ⟨HX.out,HB0.out⟩ (fun W hW=>?_);clear HX HB0;obtain⟨hX,hbw⟩:=hW;have HX:=zak hX;have HBW:=zak hbw;have k1:=hX.msg;have bb:=hX.2.1;have zW:=bb.lt;have zk1:=k1.lt;have zo1:=hX.out.lt;unfold msV at k1;unfold bsrV at bb;dsimp only at bb k1;rw[←hst] at bb;obtain⟨am,ai,aj,an,ah,ak,al,ao,ap,aq,aa,ab,ac,ae⟩:=zbd k1;have aD:=k1.frozen;obtain⟨ar,au,av,aw,ax,ay,az,aA,aB,aC,af,ag⟩:=zbc bb;have aE:=bb.frozen;clear hX hbw;have h3n:(s == 3)=false:=by rw[hst];simp[hs3]
 have h0n:(s != 0)=true:=by rw[hst];simp[hs0]
 have HS9:=zak hs0;rw[←hst] at hno;have e1:(kd == 1)=false:=by simp[hk1]
 have e6:(kd == 6)=false:=by simp[hk6]
 have e8:(kd == 8)=false:=by simp[hk8]
 have hbg:decide (kd=1∨kd=6∨kd=8)=false:=by simp[hk1,hk6,hk8]
 obtain⟨q1,q2,q3,q4,q5⟩:=hno;clear hk1 hk6 hk8 hs0 hs3 hst;go_wp2_with fail
 refine (ziq kd _).mono ?_;rintro e w1 ⟨rfl,hw1⟩;subst hw1;rw[hbg];clear hbg;by_cases g21:kd=21
 · subst g21;have sn1:(s == 1)=false:=by simp;exact fun h=>q1 ⟨rfl,h⟩
   clear q1 q2 q3 q4 q5 e1 e6 e8;go_wp2_with fail
   refine (zis p pd S 84148225 A n1 c1 _ HX.out.2.1 HS9.out).mono ?_;rintro e w5 ⟨g,hg,rfl,hBg,hBp,ho⟩;have hgz:w.heap.size+2≤g:=Nat.le_trans HX.out.2.2.2 hg;have k2:=zhe HX.out.out ho (fun e=>hne1 e.symm);have HK2:=zak k2;have HBG:=zak hBg;have HS5:Hid (BV_ w5 (fun q=>((G q∨w.heap.size≤q)∧ ¬False)∧ q≠w.heap.size+1) p pd (blkIdle S)):=zak (zi0 hBp);have HO5:=zak (HX.out.1.trans ho (fun _ _ h=>h));unfold outV outZ at k2;unfold outV outZ;dsimp only;clear am ai aj an ah ak al ao ap aq aa ab ac ae aD;clear ar au av aw ax ay az aA aB aC af ag aE;obtain⟨aF,aG,aH,aI,aJ⟩:=za9 k2;have aP:=k2.frozen;clear hBg hBp ho k1 bb
   go_wp2_with fail
   obtain⟨F1,F2⟩:=zi1 (fun _=>False) HK2.out hgz (M:=abM S.ix S.sub 84148225) HBG.out (zbs.nil _ _) (FIn.nil _) HS5.out HO5.out hz;rw[←HP.out] at F2;unfold putO outZ at F1 F2;dsimp only at F1 F2;refine zhr (O:=⟨[],false,0,0,[]⟩) rfl rfl rfl F1 ?_;exact F2
 have e21:(kd == 21)=false:=by simp[g21]
 clear g21;by_cases g7:kd=7
 · subst g7;have sn2:(s == 2)=false:=by simp;exact fun h=>q2 ⟨rfl,h⟩
   clear q1 q2 q3 q4 q5 e1 e6 e8;go_wp2_with fail
   refine (zis p pd S 84148225 A n1 c1 _ HX.out.2.1 HS9.out).mono ?_;rintro e w5 ⟨g,hg,rfl,hBg,hBp,ho⟩;have hgz:w.heap.size+2≤g:=Nat.le_trans HX.out.2.2.2 hg;have k2:=zhe HX.out.out ho (fun e=>hne1 e.symm);have HK2:=zak k2;have HBG:=zak hBg;have HS5:Hid (BV_ w5 (fun q=>((G q∨w.heap.size≤q)∧ ¬False)∧ q≠w.heap.size+1) p pd (blkIdle S)):=zak (zi0 hBp);have HO5:=zak (HX.out.1.trans ho (fun _ _ h=>h));unfold outV outZ at k2;unfold outV outZ;dsimp only;clear am ai aj an ah ak al ao ap aq aa ab ac ae aD;clear ar au av aw ax ay az aA aB aC af ag aE;obtain⟨aF,aG,aH,aI,aJ⟩:=za9 k2;have aP:=k2.frozen;clear hBg hBp ho k1 bb
   go_wp2_with fail
   obtain⟨F1,F2⟩:=zi1 (fun _=>False) HK2.out hgz (M:=abM S.ix S.sub 84148225) HBG.out (zbs.nil _ _) (FIn.nil _) HS5.out HO5.out hz;rw[←HP.out] at F2;unfold putO outZ at F1 F2;dsimp only at F1 F2;refine zhr (O:=⟨[],false,0,0,[]⟩) rfl rfl rfl F1 ?_;exact F2
 have e7:(kd == 7)=false:=by simp[g7]
 clear g7;by_cases g9:kd=9
 · subst g9;have sn4:(s == 4)=false:=by simp;exact fun h=>q3 ⟨rfl,h⟩
   clear q1 q2 q3 q4 q5 e1 e6 e8;go_wp2_with fail
   refine (zis p pd S 84148225 A n1 c1 _ HX.out.2.1 HS9.out).mono ?_;rintro e w5 ⟨g,hg,rfl,hBg,hBp,ho⟩;have hgz:w.heap.size+2≤g:=Nat.le_trans HX.out.2.2.2 hg;have k2:=zhe HX.out.out ho (fun e=>hne1 e.symm);have HK2:=zak k2;have HBG:=zak hBg;have HS5:Hid (BV_ w5 (fun q=>((G q∨w.heap.size≤q)∧ ¬False)∧ q≠w.heap.size+1) p pd (blkIdle S)):=zak (zi0 hBp);have HO5:=zak (HX.out.1.trans ho (fun _ _ h=>h));unfold outV outZ at k2;unfold outV outZ;dsimp only;clear am ai aj an ah ak al ao ap aq aa ab ac ae aD;clear ar au av aw ax ay az aA aB aC af ag aE;obtain⟨aF,aG,aH,aI,aJ⟩:=za9 k2;have aP:=k2.frozen;clear hBg hBp ho k1 bb
   go_wp2_with fail
   obtain⟨F1,F2⟩:=zi1 (fun _=>False) HK2.out hgz (M:=abM S.ix S.sub 84148225) HBG.out (zbs.nil _ _) (FIn.nil _) HS5.out HO5.out hz;rw[←HP.out] at F2;unfold putO outZ at F1 F2;dsimp only at F1 F2;refine zhr (O:=⟨[],false,0,0,[]⟩) rfl rfl rfl F1 ?_;exact F2
 have e9:(kd == 9)=false:=by simp[g9]
 clear g9;by_cases g10:kd=10
 · subst g10;have sn5:(s == 5)=false:=by simp;exact fun h=>q4 ⟨rfl,h⟩
   clear q1 q2 q3 q4 q5 e1 e6 e8;go_wp2_with fail
   refine (zis p pd S 84148225 A n1 c1 _ HX.out.2.1 HS9.out).mono ?_;rintro e w5 ⟨g,hg,rfl,hBg,hBp,ho⟩;have hgz:w.heap.size+2≤g:=Nat.le_trans HX.out.2.2.2 hg;have k2:=zhe HX.out.out ho (fun e=>hne1 e.symm);have HK2:=zak k2;have HBG:=zak hBg;have HS5:Hid (BV_ w5 (fun q=>((G q∨w.heap.size≤q)∧ ¬False)∧ q≠w.heap.size+1) p pd (blkIdle S)):=zak (zi0 hBp);have HO5:=zak (HX.out.1.trans ho (fun _ _ h=>h));unfold outV outZ at k2;unfold outV outZ;dsimp only;clear am ai aj an ah ak al ao ap aq aa ab ac ae aD;clear ar au av aw ax ay az aA aB aC af ag aE;obtain⟨aF,aG,aH,aI,aJ⟩:=za9 k2;have aP:=k2.frozen;clear hBg hBp ho k1 bb
   go_wp2_with fail
   obtain⟨F1,F2⟩:=zi1 (fun _=>False) HK2.out hgz (M:=abM S.ix S.sub 84148225) HBG.out (zbs.nil _ _) (FIn.nil _) HS5.out HO5.out hz;rw[←HP.out] at F2;unfold putO outZ at F1 F2;dsimp only at F1 F2;refine zhr (O:=⟨[],false,0,0,[]⟩) rfl rfl rfl F1 ?_;exact F2
 have e10:(kd == 10)=false:=by simp[g10]
 clear g10;by_cases g11:kd=11
 · subst g11;have sn6:(s == 6)=false:=by simp;exact fun h=>q5 ⟨rfl,h⟩
   clear q1 q2 q3 q4 q5 e1 e6 e8;go_wp2_with fail
   refine (zis p pd S 84148225 A n1 c1 _ HX.out.2.1 HS9.out).mono ?_;rintro e w5 ⟨g,hg,rfl,hBg,hBp,ho⟩;have hgz:w.heap.size+2≤g:=Nat.le_trans HX.out.2.2.2 hg;have k2:=zhe HX.out.out ho (fun e=>hne1 e.symm);have HK2:=zak k2;have HBG:=zak hBg;have HS5:Hid (BV_ w5 (fun q=>((G q∨w.heap.size≤q)∧ ¬False)∧ q≠w.heap.size+1) p pd (blkIdle S)):=zak (zi0 hBp);have HO5:=zak (HX.out.1.trans ho (fun _ _ h=>h));unfold outV outZ at k2;unfold outV outZ;dsimp only;clear am ai aj an ah ak al ao ap aq aa ab ac ae aD;clear ar au av aw ax ay az aA aB aC af ag aE;obtain⟨aF,aG,aH,aI,aJ⟩:=za9 k2;have aP:=k2.frozen;clear hBg hBp ho k1 bb
   go_wp2_with fail
   obtain⟨F1,F2⟩:=zi1 (fun _=>False) HK2.out hgz (M:=abM S.ix S.sub 84148225) HBG.out (zbs.nil _ _) (FIn.nil _) HS5.out HO5.out hz;rw[←HP.out] at F2;unfold putO outZ at F1 F2;dsimp only at F1 F2;refine zhr (O:=⟨[],false,0,0,[]⟩) rfl rfl rfl F1 ?_;exact F2
 have e11:(kd == 11)=false:=by simp[g11]
 clear g11;clear q1 q2 q3 q4 q5;go_wp2_with fail
 refine (zis p pd S 84148225 A n1 c1 _ HX.out.2.1 HS9.out).mono ?_;rintro e w5 ⟨g,hg,rfl,hBg,hBp,ho⟩;have hgz:w.heap.size+2≤g:=Nat.le_trans HX.out.2.2.2 hg;have k2:=zhe HX.out.out ho (fun e=>hne1 e.symm);have HK2:=zak k2;have HBG:=zak hBg;have HS5:Hid (BV_ w5 (fun q=>((G q∨w.heap.size≤q)∧ ¬False)∧ q≠w.heap.size+1) p pd (blkIdle S)):=zak (zi0 hBp);have HO5:=zak (HX.out.1.trans ho (fun _ _ h=>h));unfold outV outZ at k2;unfold outV outZ;dsimp only;clear am ai aj an ah ak al ao ap aq aa ab ac ae aD;clear ar au av aw ax ay az aA aB aC af ag aE;obtain⟨aF,aG,aH,aI,aJ⟩:=za9 k2;have aP:=k2.frozen;clear hBg hBp ho k1 bb
 go_wp2_with fail
 obtain⟨F1,F2⟩:=zi1 (fun _=>False) HK2.out hgz (M:=abM S.ix S.sub 84148225) HBG.out (zbs.nil _ _) (FIn.nil _) HS5.out HO5.out hz;rw[←HP.out] at F2;unfold putO outZ at F1 F2;dsimp only at F1 F2;refine zhr (O:=⟨[],false,0,0,[]⟩) rfl rfl rfl F1 ?_;exact F2
theorem zl8 (p pd:Nat)(S:BlkS)(G:Nat→Prop)(kd:Int)(ix sub:Int)(tg la cr sz:Bool)(size code:Nat)(data:List UInt8)(sq bl em:Int)(sum:Nat)(A3:Option Addr)(m3 c3:Nat)(w:World)(hS:BV_ w G p pd S)(hs03:S.st=0∨S.st=3)(hk1:kd≠1)(hk6:kd≠6)(hk8:kd≠8) :
 Calls Tryz.prog 36 #[.pointer (some ⟨p,0,none⟩),.agg (msV (⟨kd,ix,sub,tg,la,cr,sz,size,code,data,sq,bl,em,sum⟩:Ms) A3 m3 c3)] w (BOutR w G p pd (blkIdle S) (outM (abM 0 0 84148225))):=by
 obtain⟨P,hP⟩:∃P,P=BOutR w G p pd (blkIdle S) (outM (abM 0 0 84148225)):=⟨_,rfl⟩;rw[←hP];have HP:=zak hP;obtain⟨s,hst⟩:∃s,s=S.st:=⟨_,rfl⟩;obtain⟨A,n1,c1,hB,_⟩:=id hS;have hz:=hB.lt;have hne1:p≠w.heap.size+1:=by omega
 have hne0:w.heap.size≠p:=by omega
 have HX:=zak (zi4 (S:=S) (pd:=pd) (A:=A) (n1:=n1) (c1:=c1) (⟨kd,ix,sub,tg,la,cr,sz,size,code,data,sq,bl,em,sum⟩:Ms) A3 m3 c3 hB);have HB0:=zak (za7 (za7 (Below.refl w.heap.size w) (.cells (msV (⟨kd,ix,sub,tg,la,cr,sz,size,code,data,sq,bl,em,sum⟩:Ms) A3 m3 c3) 95)) (.cells (outV none 0 0 outZ none 0 0) 93));have HS0:=zak hS;clear hP hS hB;unfold msV outV outZ at HX HB0;unfold msV;go_enter Tryz.func36,Tryz.ntmps36
 go_upto_region 1 with fail
 refine zb6 (P:=fun W=>BX w p pd (KMO w (⟨kd,ix,sub,tg,la,cr,sz,size,code,data,sq,bl,em,sum⟩:Ms) A3 m3 c3) S A n1 c1 W∧Below w.heap.size w W) ⟨HX.out,HB0.out⟩ (fun W hW=>?_);clear HX HB0;obtain⟨hX,hbw⟩:=hW;have HX:=zak hX;have HBW:=zak hbw;have k1:=hX.msg;have bb:=hX.2.1;have zW:=bb.lt;have zk1:=k1.lt;have zo1:=hX.out.lt;unfold msV at k1;unfold bsrV at bb;dsimp only at bb k1;rw[←hst] at bb;obtain⟨am,ai,aj,an,ah,ak,al,ao,ap,aq,aa,ab,ac,ae⟩:=zbd k1;have aD:=k1.frozen;obtain⟨ar,au,av,aw,ax,ay,az,aA,aB,aC,af,ag⟩:=zbc bb;have aE:=bb.frozen;clear hX hbw;have e1:(kd == 1)=false:=by simp[hk1]
 have e6:(kd == 6)=false:=by simp[hk6]
 have e8:(kd == 8)=false:=by simp[hk8]
 have hbg:decide (kd=1∨kd=6∨kd=8)=false:=by simp[hk1,hk6,hk8]
 have XI:=zak (HX.out.sets (S':=blkIdle S) [.int .i64 0] 7 (by simp) rfl);simp only[World.setCells] at XI;clear hk1 hk6 hk8;have HGO:Hid (∀W2,BX w p pd (KMO w (⟨kd,ix,sub,tg,la,cr,sz,size,code,data,sq,bl,em,sum⟩:Ms) A3 m3 c3) (blkIdle S) A n1 c1 W2→True):=zak (fun _ _=>trivial);by_cases h3:s=3
 · subst h3;clear hs03 hst hbg;go_upto_region 5 with fail
   refine zb6 (P:=BX w p pd (KMO w (⟨kd,ix,sub,tg,la,cr,sz,size,code,data,sq,bl,em,sum⟩:Ms) A3 m3 c3) (blkIdle S) A n1 c1) XI.out (fun W2 hW2=>?_);clear XI;clear am ai aj an ah ak al ao ap aq aa ab ac ae aD;clear ar au av aw ax ay az aA aB aC af ag aE;clear k1 bb;have HXX:=zak hW2;have k1:=hW2.msg;have zk2:=k1.lt;have b7:W2.cell? ⟨p,7,none⟩=some (.int .i64 0):=hW2.2.1.cell 7 rfl;have z2:=hW2.2.1.lt;unfold msV at k1;dsimp only at k1;obtain⟨am,ai,aj,an,ah,ak,al,ao,ap,aq,aa,ab,ac,ae⟩:=zbd k1;have aD:=k1.frozen;clear hW2;by_cases g21:kd=21
   · subst g21;clear e1 e6 e8;go_wp2_with fail
     refine (zip 0 0 84148225 _).mono ?_;rintro e w3 ⟨rfl,hb3⟩;have HX5:=zak (HXX.out.step (za7 hb3 (.cells (msV (abM 0 0 84148225) none 0 0) 95)));have HG5:=zak (Blk.new w3 95 (msV (abM 0 0 84148225) none 0 0));have hgz:w.heap.size+2≤w3.heap.size:=Nat.le_trans HXX.out.2.2.2 hb3.size;unfold msV abM at HX5 HG5;unfold msV abM;dsimp only at HX5 HG5 ⊢;clear hb3;go_wp2_with fail
     refine (zio (some ⟨w3.heap.size,0,none⟩) 1 1 _).mono ?_;rintro e w4 ⟨rfl,hb4⟩;have HX6:=zak (HX5.out.step hb4);have HG6:=zak (HG5.out.below hb4 (by simp));have k2:=HX6.out.out;unfold outV outZ at k2;unfold outV outZ;dsimp only;clear am ai aj an ah ak al ao ap aq aa ab ac ae aD;clear k1 b7 z2;obtain⟨aF,aG,aH,aI,aJ⟩:=za9 k2;have aP:=k2.frozen;clear hb4 HX5 HG5;go_wp2_with fail
     obtain⟨F1,F2⟩:=zi1 (fun _=>False) HX6.out.out hgz (M:=abM 0 0 84148225) HG6.out (zbs.nil _ _) (FIn.nil _) (show BV_ w4 (fun q=>((G q∨w.heap.size≤q)∧ ¬False)∧ q≠w.heap.size+1) p pd (blkIdle S) from zi0 HX6.out.2.1) HX6.out.1 hz;rw[←HP.out] at F2;unfold putO outZ at F1 F2;dsimp only at F1 F2;refine zhr (O:=⟨[],false,0,0,[]⟩) rfl rfl rfl F1 ?_;exact F2
   have e21:(kd == 21)=false:=by simp[g21]
   clear g21;by_cases g7:kd=7
   · subst g7;clear e1 e6 e8;go_wp2_with fail
     refine (zip 0 0 84148225 _).mono ?_;rintro e w3 ⟨rfl,hb3⟩;have HX5:=zak (HXX.out.step (za7 hb3 (.cells (msV (abM 0 0 84148225) none 0 0) 95)));have HG5:=zak (Blk.new w3 95 (msV (abM 0 0 84148225) none 0 0));have hgz:w.heap.size+2≤w3.heap.size:=Nat.le_trans HXX.out.2.2.2 hb3.size;unfold msV abM at HX5 HG5;unfold msV abM;dsimp only at HX5 HG5 ⊢;clear hb3;go_wp2_with fail
     refine (zio (some ⟨w3.heap.size,0,none⟩) 1 1 _).mono ?_;rintro e w4 ⟨rfl,hb4⟩;have HX6:=zak (HX5.out.step hb4);have HG6:=zak (HG5.out.below hb4 (by simp));have k2:=HX6.out.out;unfold outV outZ at k2;unfold outV outZ;dsimp only;clear am ai aj an ah ak al ao ap aq aa ab ac ae aD;clear k1 b7 z2;obtain⟨aF,aG,aH,aI,aJ⟩:=za9 k2;have aP:=k2.frozen;clear hb4 HX5 HG5;go_wp2_with fail
     obtain⟨F1,F2⟩:=zi1 (fun _=>False) HX6.out.out hgz (M:=abM 0 0 84148225) HG6.out (zbs.nil _ _) (FIn.nil _) (show BV_ w4 (fun q=>((G q∨w.heap.size≤q)∧ ¬False)∧ q≠w.heap.size+1) p pd (blkIdle S) from zi0 HX6.out.2.1) HX6.out.1 hz;rw[←HP.out] at F2;unfold putO outZ at F1 F2;dsimp only at F1 F2;refine zhr (O:=⟨[],false,0,0,[]⟩) rfl rfl rfl F1 ?_;exact F2
   have e7:(kd == 7)=false:=by simp[g7]
   clear g7;by_cases g9:kd=9
   · subst g9;clear e1 e6 e8;go_wp2_with fail
     refine (zip 0 0 84148225 _).mono ?_;rintro e w3 ⟨rfl,hb3⟩;have HX5:=zak (HXX.out.step (za7 hb3 (.cells (msV (abM 0 0 84148225) none 0 0) 95)));have HG5:=zak (Blk.new w3 95 (msV (abM 0 0 84148225) none 0 0));have hgz:w.heap.size+2≤w3.heap.size:=Nat.le_trans HXX.out.2.2.2 hb3.size;unfold msV abM at HX5 HG5;unfold msV abM;dsimp only at HX5 HG5 ⊢;clear hb3;go_wp2_with fail
     refine (zio (some ⟨w3.heap.size,0,none⟩) 1 1 _).mono ?_;rintro e w4 ⟨rfl,hb4⟩;have HX6:=zak (HX5.out.step hb4);have HG6:=zak (HG5.out.below hb4 (by simp));have k2:=HX6.out.out;unfold outV outZ at k2;unfold outV outZ;dsimp only;clear am ai aj an ah ak al ao ap aq aa ab ac ae aD;clear k1 b7 z2;obtain⟨aF,aG,aH,aI,aJ⟩:=za9 k2;have aP:=k2.frozen;clear hb4 HX5 HG5;go_wp2_with fail
     obtain⟨F1,F2⟩:=zi1 (fun _=>False) HX6.out.out hgz (M:=abM 0 0 84148225) HG6.out (zbs.nil _ _) (FIn.nil _) (show BV_ w4 (fun q=>((G q∨w.heap.size≤q)∧ ¬False)∧ q≠w.heap.size+1) p pd (blkIdle S) from zi0 HX6.out.2.1) HX6.out.1 hz;rw[←HP.out] at F2;unfold putO outZ at F1 F2;dsimp only at F1 F2;refine zhr (O:=⟨[],false,0,0,[]⟩) rfl rfl rfl F1 ?_;exact F2
   have e9:(kd == 9)=false:=by simp[g9]
   clear g9;by_cases g10:kd=10
   · subst g10;clear e1 e6 e8;go_wp2_with fail
     refine (zip 0 0 84148225 _).mono ?_;rintro e w3 ⟨rfl,hb3⟩;have HX5:=zak (HXX.out.step (za7 hb3 (.cells (msV (abM 0 0 84148225) none 0 0) 95)));have HG5:=zak (Blk.new w3 95 (msV (abM 0 0 84148225) none 0 0));have hgz:w.heap.size+2≤w3.heap.size:=Nat.le_trans HXX.out.2.2.2 hb3.size;unfold msV abM at HX5 HG5;unfold msV abM;dsimp only at HX5 HG5 ⊢;clear hb3;go_wp2_with fail
     refine (zio (some ⟨w3.heap.size,0,none⟩) 1 1 _).mono ?_;rintro e w4 ⟨rfl,hb4⟩;have HX6:=zak (HX5.out.step hb4);have HG6:=zak (HG5.out.below hb4 (by simp));have k2:=HX6.out.out;unfold outV outZ at k2;unfold outV outZ;dsimp only;clear am ai aj an ah ak al ao ap aq aa ab ac ae aD;clear k1 b7 z2;obtain⟨aF,aG,aH,aI,aJ⟩:=za9 k2;have aP:=k2.frozen;clear hb4 HX5 HG5;go_wp2_with fail
     obtain⟨F1,F2⟩:=zi1 (fun _=>False) HX6.out.out hgz (M:=abM 0 0 84148225) HG6.out (zbs.nil _ _) (FIn.nil _) (show BV_ w4 (fun q=>((G q∨w.heap.size≤q)∧ ¬False)∧ q≠w.heap.size+1) p pd (blkIdle S) from zi0 HX6.out.2.1) HX6.out.1 hz;rw[←HP.out] at F2;unfold putO outZ at F1 F2;dsimp only at F1 F2;refine zhr (O:=⟨[],false,0,0,[]⟩) rfl rfl rfl F1 ?_;exact F2
   have e10:(kd == 10)=false:=by simp[g10]
   clear g10;by_cases g11:kd=11
   · subst g11;clear e1 e6 e8;go_wp2_with fail
     refine (zip 0 0 84148225 _).mono ?_;rintro e w3 ⟨rfl,hb3⟩;have HX5:=zak (HXX.out.step (za7 hb3 (.cells (msV (abM 0 0 84148225) none 0 0) 95)));have HG5:=zak (Blk.new w3 95 (msV (abM 0 0 84148225) none 0 0));have hgz:w.heap.size+2≤w3.heap.size:=Nat.le_trans HXX.out.2.2.2 hb3.size;unfold msV abM at HX5 HG5;unfold msV abM;dsimp only at HX5 HG5 ⊢;clear hb3;go_wp2_with fail
     refine (zio (some ⟨w3.heap.size,0,none⟩) 1 1 _).mono ?_;rintro e w4 ⟨rfl,hb4⟩;have HX6:=zak (HX5.out.step hb4);have HG6:=zak (HG5.out.below hb4 (by simp));have k2:=HX6.out.out;unfold outV outZ at k2;unfold outV outZ;dsimp only;clear am ai aj an ah ak al ao ap aq aa ab ac ae aD;clear k1 b7 z2;obtain⟨aF,aG,aH,aI,aJ⟩:=za9 k2;have aP:=k2.frozen;clear hb4 HX5 HG5;go_wp2_with fail
     obtain⟨F1,F2⟩:=zi1 (fun _=>False) HX6.out.out hgz (M:=abM 0 0 84148225) HG6.out (zbs.nil _ _) (FIn.nil _) (show BV_ w4 (fun q=>((G q∨w.heap.size≤q)∧ ¬False)∧ q≠w.heap.size+1) p pd (blkIdle S) from zi0 HX6.out.2.1) HX6.out.1 hz;rw[←HP.out] at F2;unfold putO outZ at F1 F2;dsimp only at F1 F2;refine zhr (O:=⟨[],false,0,0,[]⟩) rfl rfl rfl F1 ?_;exact F2
   have e11:(kd == 11)=false:=by simp[g11]
   clear g11;go_wp2_with fail
   refine (zip 0 0 84148225 _).mono ?_;rintro e w3 ⟨rfl,hb3⟩;have HX5:=zak (HXX.out.step (za7 hb3 (.cells (msV (abM 0 0 84148225) none 0 0) 95)));have HG5:=zak (Blk.new w3 95 (msV (abM 0 0 84148225) none 0 0));have hgz:w.heap.size+2≤w3.heap.size:=Nat.le_trans HXX.out.2.2.2 hb3.size;unfold msV abM at HX5 HG5;unfold msV abM;dsimp only at HX5 HG5 ⊢;clear hb3;go_wp2_with fail
   refine (zio (some ⟨w3.heap.size,0,none⟩) 1 1 _).mono ?_;rintro e w4 ⟨rfl,hb4⟩;have HX6:=zak (HX5.out.step hb4);have HG6:=zak (HG5.out.below hb4 (by simp));have k2:=HX6.out.out;unfold outV outZ at k2;unfold outV outZ;dsimp only;clear am ai aj an ah ak al ao ap aq aa ab ac ae aD;clear k1 b7 z2;obtain⟨aF,aG,aH,aI,aJ⟩:=za9 k2;have aP:=k2.frozen;clear hb4 HX5 HG5;go_wp2_with fail
   obtain⟨F1,F2⟩:=zi1 (fun _=>False) HX6.out.out hgz (M:=abM 0 0 84148225) HG6.out (zbs.nil _ _) (FIn.nil _) (show BV_ w4 (fun q=>((G q∨w.heap.size≤q)∧ ¬False)∧ q≠w.heap.size+1) p pd (blkIdle S) from zi0 HX6.out.2.1) HX6.out.1 hz;rw[←HP.out] at F2;unfold putO outZ at F1 F2;dsimp only at F1 F2;refine zhr (O:=⟨[],false,0,0,[]⟩) rfl rfl rfl F1 ?_;exact F2
 · have h0:s=0:=by rw[hst];rcases hs03 with h | h;exact h;exact absurd (hst.trans h) h3
   have hid:=zl5 (S:=S) (hst.symm.trans h0);subst h0;have HXX:Hid (BX w p pd (KMO w (⟨kd,ix,sub,tg,la,cr,sz,size,code,data,sq,bl,em,sum⟩:Ms) A3 m3 c3) (blkIdle S) A n1 c1 W):=zak (by rw[hid];exact HX.out);clear hs03 hst hid h3 XI HX;go_wp2_with fail
   refine (ziq kd _).mono ?_;rintro e w1 ⟨rfl,hw1⟩;subst hw1;rw[hbg];clear hbg;by_cases g21:kd=21
   · subst g21;clear e1 e6 e8;go_wp2_with fail
     refine (zip 0 0 84148225 _).mono ?_;rintro e w3 ⟨rfl,hb3⟩;have HX5:=zak (HXX.out.step (za7 hb3 (.cells (msV (abM 0 0 84148225) none 0 0) 95)));have HG5:=zak (Blk.new w3 95 (msV (abM 0 0 84148225) none 0 0));have hgz:w.heap.size+2≤w3.heap.size:=Nat.le_trans HXX.out.2.2.2 hb3.size;unfold msV abM at HX5 HG5;unfold msV abM;dsimp only at HX5 HG5 ⊢;clear hb3;go_wp2_with fail
     refine (zio (some ⟨w3.heap.size,0,none⟩) 1 1 _).mono ?_;rintro e w4 ⟨rfl,hb4⟩;have HX6:=zak (HX5.out.step hb4);have HG6:=zak (HG5.out.below hb4 (by simp));have k2:=HX6.out.out;unfold outV outZ at k2;unfold outV outZ;dsimp only;clear am ai aj an ah ak al ao ap aq aa ab ac ae aD;clear ar au av aw ax ay az aA aB aC af ag aE;clear k1 bb;obtain⟨aF,aG,aH,aI,aJ⟩:=za9 k2;have aP:=k2.frozen;clear hb4 HX5 HG5;go_wp2_with fail
     obtain⟨F1,F2⟩:=zi1 (fun _=>False) HX6.out.out hgz (M:=abM 0 0 84148225) HG6.out (zbs.nil _ _) (FIn.nil _) (show BV_ w4 (fun q=>((G q∨w.heap.size≤q)∧ ¬False)∧ q≠w.heap.size+1) p pd (blkIdle S) from zi0 HX6.out.2.1) HX6.out.1 hz;rw[←HP.out] at F2;unfold putO outZ at F1 F2;dsimp only at F1 F2;refine zhr (O:=⟨[],false,0,0,[]⟩) rfl rfl rfl F1 ?_;exact F2
   have e21:(kd == 21)=false:=by simp[g21]
   clear g21;by_cases g7:kd=7
   · subst g7;clear e1 e6 e8;go_wp2_with fail
     refine (zip 0 0 84148225 _).mono ?_;rintro e w3 ⟨rfl,hb3⟩;have HX5:=zak (HXX.out.step (za7 hb3 (.cells (msV (abM 0 0 84148225) none 0 0) 95)));have HG5:=zak (Blk.new w3 95 (msV (abM 0 0 84148225) none 0 0));have hgz:w.heap.size+2≤w3.heap.size:=Nat.le_trans HXX.out.2.2.2 hb3.size;unfold msV abM at HX5 HG5;unfold msV abM;dsimp only at HX5 HG5 ⊢;clear hb3;go_wp2_with fail
     refine (zio (some ⟨w3.heap.size,0,none⟩) 1 1 _).mono ?_;rintro e w4 ⟨rfl,hb4⟩;have HX6:=zak (HX5.out.step hb4);have HG6:=zak (HG5.out.below hb4 (by simp));have k2:=HX6.out.out;unfold outV outZ at k2;unfold outV outZ;dsimp only;clear am ai aj an ah ak al ao ap aq aa ab ac ae aD;clear ar au av aw ax ay az aA aB aC af ag aE;clear k1 bb;obtain⟨aF,aG,aH,aI,aJ⟩:=za9 k2;have aP:=k2.frozen;clear hb4 HX5 HG5;go_wp2_with fail
     obtain⟨F1,F2⟩:=zi1 (fun _=>False) HX6.out.out hgz (M:=abM 0 0 84148225) HG6.out (zbs.nil _ _) (FIn.nil _) (show BV_ w4 (fun q=>((G q∨w.heap.size≤q)∧ ¬False)∧ q≠w.heap.size+1) p pd (blkIdle S) from zi0 HX6.out.2.1) HX6.out.1 hz;rw[←HP.out] at F2;unfold putO outZ at F1 F2;dsimp only at F1 F2;refine zhr (O:=⟨[],false,0,0,[]⟩) rfl rfl rfl F1 ?_;exact F2
   have e7:(kd == 7)=false:=by simp[g7]
   clear g7;by_cases g9:kd=9
   · subst g9;clear e1 e6 e8;go_wp2_with fail
     refine (zip 0 0 84148225 _).mono ?_;rintro e w3 ⟨rfl,hb3⟩;have HX5:=zak (HXX.out.step (za7 hb3 (.cells (msV (abM 0 0 84148225) none 0 0) 95)));have HG5:=zak (Blk.new w3 95 (msV (abM 0 0 84148225) none 0 0));have hgz:w.heap.size+2≤w3.heap.size:=Nat.le_trans HXX.out.2.2.2 hb3.size;unfold msV abM at HX5 HG5;unfold msV abM;dsimp only at HX5 HG5 ⊢;clear hb3;go_wp2_with fail
     refine (zio (some ⟨w3.heap.size,0,none⟩) 1 1 _).mono ?_;rintro e w4 ⟨rfl,hb4⟩;have HX6:=zak (HX5.out.step hb4);have HG6:=zak (HG5.out.below hb4 (by simp));have k2:=HX6.out.out;unfold outV outZ at k2;unfold outV outZ;dsimp only;clear am ai aj an ah ak al ao ap aq aa ab ac ae aD;clear ar au av aw ax ay az aA aB aC af ag aE;clear k1 bb;obtain⟨aF,aG,aH,aI,aJ⟩:=za9 k2;have aP:=k2.frozen;clear hb4 HX5 HG5;go_wp2_with fail
     obtain⟨F1,F2⟩:=zi1 (fun _=>False) HX6.out.out hgz (M:=abM 0 0 84148225) HG6.out (zbs.nil _ _) (FIn.nil _) (show BV_ w4 (fun q=>((G q∨w.heap.size≤q)∧ ¬False)∧ q≠w.heap.size+1) p pd (blkIdle S) from zi0 HX6.out.2.1) HX6.out.1 hz;rw[←HP.out] at F2;unfold putO outZ at F1 F2;dsimp only at F1 F2;refine zhr (O:=⟨[],false,0,0,[]⟩) rfl rfl rfl F1 ?_;exact F2
   have e9:(kd == 9)=false:=by simp[g9]
   clear g9;by_cases g10:kd=10
   · subst g10;clear e1 e6 e8;go_wp2_with fail
     refine (zip 0 0 84148225 _).mono ?_;rintro e w3 ⟨rfl,hb3⟩;have HX5:=zak (HXX.out.step (za7 hb3 (.cells (msV (abM 0 0 84148225) none 0 0) 95)));have HG5:=zak (Blk.new w3 95 (msV (abM 0 0 84148225) none 0 0));have hgz:w.heap.size+2≤w3.heap.size:=Nat.le_trans HXX.out.2.2.2 hb3.size;unfold msV abM at HX5 HG5;unfold msV abM;dsimp only at HX5 HG5 ⊢;clear hb3;go_wp2_with fail
     refine (zio (some ⟨w3.heap.size,0,none⟩) 1 1 _).mono ?_;rintro e w4 ⟨rfl,hb4⟩;have HX6:=zak (HX5.out.step hb4);have HG6:=zak (HG5.out.below hb4 (by simp));have k2:=HX6.out.out;unfold outV outZ at k2;unfold outV outZ;dsimp only;clear am ai aj an ah ak al ao ap aq aa ab ac ae aD;clear ar au av aw ax ay az aA aB aC af ag aE;clear k1 bb;obtain⟨aF,aG,aH,aI,aJ⟩:=za9 k2;have aP:=k2.frozen;clear hb4 HX5 HG5;go_wp2_with fail
     obtain⟨F1,F2⟩:=zi1 (fun _=>False) HX6.out.out hgz (M:=abM 0 0 84148225) HG6.out (zbs.nil _ _) (FIn.nil _) (show BV_ w4 (fun q=>((G q∨w.heap.size≤q)∧ ¬False)∧ q≠w.heap.size+1) p pd (blkIdle S) from zi0 HX6.out.2.1) HX6.out.1 hz;rw[←HP.out] at F2;unfold putO outZ at F1 F2;dsimp only at F1 F2;refine zhr (O:=⟨[],false,0,0,[]⟩) rfl rfl rfl F1 ?_;exact F2
   have e10:(kd == 10)=false:=by simp[g10]
   clear g10;by_cases g11:kd=11
   · subst g11;clear e1 e6 e8;go_wp2_with fail
     refine (zip 0 0 84148225 _).mono ?_;rintro e w3 ⟨rfl,hb3⟩;have HX5:=zak (HXX.out.step (za7 hb3 (.cells (msV (abM 0 0 84148225) none 0 0) 95)));have HG5:=zak (Blk.new w3 95 (msV (abM 0 0 84148225) none 0 0));have hgz:w.heap.size+2≤w3.heap.size:=Nat.le_trans HXX.out.2.2.2 hb3.size;unfold msV abM at HX5 HG5;unfold msV abM;dsimp only at HX5 HG5 ⊢;clear hb3;go_wp2_with fail
     refine (zio (some ⟨w3.heap.size,0,none⟩) 1 1 _).mono ?_;rintro e w4 ⟨rfl,hb4⟩;have HX6:=zak (HX5.out.step hb4);have HG6:=zak (HG5.out.below hb4 (by simp));have k2:=HX6.out.out;unfold outV outZ at k2;unfold outV outZ;dsimp only;clear am ai aj an ah ak al ao ap aq aa ab ac ae aD;clear ar au av aw ax ay az aA aB aC af ag aE;clear k1 bb;obtain⟨aF,aG,aH,aI,aJ⟩:=za9 k2;have aP:=k2.frozen;clear hb4 HX5 HG5;go_wp2_with fail
     obtain⟨F1,F2⟩:=zi1 (fun _=>False) HX6.out.out hgz (M:=abM 0 0 84148225) HG6.out (zbs.nil _ _) (FIn.nil _) (show BV_ w4 (fun q=>((G q∨w.heap.size≤q)∧ ¬False)∧ q≠w.heap.size+1) p pd (blkIdle S) from zi0 HX6.out.2.1) HX6.out.1 hz;rw[←HP.out] at F2;unfold putO outZ at F1 F2;dsimp only at F1 F2;refine zhr (O:=⟨[],false,0,0,[]⟩) rfl rfl rfl F1 ?_;exact F2
   have e11:(kd == 11)=false:=by simp[g11]
   clear g11;go_wp2_with fail
   refine (zip 0 0 84148225 _).mono ?_;rintro e w3 ⟨rfl,hb3⟩;have HX5:=zak (HXX.out.step (za7 hb3 (.cells (msV (abM 0 0 84148225) none 0 0) 95)));have HG5:=zak (Blk.new w3 95 (msV (abM 0 0 84148225) none 0 0));have hgz:w.heap.size+2≤w3.heap.size:=Nat.le_trans HXX.out.2.2.2 hb3.size;unfold msV abM at HX5 HG5;unfold msV abM;dsimp only at HX5 HG5 ⊢;clear hb3;go_wp2_with fail
   refine (zio (some ⟨w3.heap.size,0,none⟩) 1 1 _).mono ?_;rintro e w4 ⟨rfl,hb4⟩;have HX6:=zak (HX5.out.step hb4);have HG6:=zak (HG5.out.below hb4 (by simp));have k2:=HX6.out.out;unfold outV outZ at k2;unfold outV outZ;dsimp only;clear am ai aj an ah ak al ao ap aq aa ab ac ae aD;clear ar au av aw ax ay az aA aB aC af ag aE;clear k1 bb;obtain⟨aF,aG,aH,aI,aJ⟩:=za9 k2;have aP:=k2.frozen;clear hb4 HX5 HG5;go_wp2_with fail
   obtain⟨F1,F2⟩:=zi1 (fun _=>False) HX6.out.out hgz (M:=abM 0 0 84148225) HG6.out (zbs.nil _ _) (FIn.nil _) (show BV_ w4 (fun q=>((G q∨w.heap.size≤q)∧ ¬False)∧ q≠w.heap.size+1) p pd (blkIdle S) from zi0 HX6.out.2.1) HX6.out.1 hz;rw[←HP.out] at F2;unfold putO outZ at F1 F2;dsimp only at F1 F2;refine zhr (O:=⟨[],false,0,0,[]⟩) rfl rfl rfl F1 ?_;exact F2
theorem zl9 (p pd:Nat)(S:BlkS)(G:Nat→Prop)(kd:Int)(ix sub:Int)(tg la cr sz:Bool)(size code:Nat)(data:List UInt8)(sq bl em:Int)(sum:Nat)(A3:Option Addr)(m3 c3:Nat)(w:World)(hS:BV_ w G p pd S)(h5:S.st=5)(cd:Nat)(hcd:Hid (cd=if S.ro < sq then 84148227 else 84148226))(hno:S.ro < sq∨bl=0) :
 Calls Tryz.prog 92 #[.pointer (some ⟨p,0,none⟩),.agg (msV (⟨kd,ix,sub,tg,la,cr,sz,size,code,data,sq,bl,em,sum⟩:Ms) A3 m3 c3)] w (BOutR w G p pd (blkIdle S) (outM (abM S.ix S.sub cd))):=by
 obtain⟨P,hP⟩:∃P,P=BOutR w G p pd (blkIdle S) (outM (abM S.ix S.sub cd)):=⟨_,rfl⟩;rw[←hP];have HP:=zak hP;obtain⟨s,hst⟩:∃s,s=S.st:=⟨_,rfl⟩;obtain⟨A,n1,c1,hB,_⟩:=id hS;have hz:=hB.lt;have hne1:p≠w.heap.size+1:=by omega
 have hne0:w.heap.size≠p:=by omega
 have HX:=zak (zi4 (S:=S) (pd:=pd) (A:=A) (n1:=n1) (c1:=c1) (⟨kd,ix,sub,tg,la,cr,sz,size,code,data,sq,bl,em,sum⟩:Ms) A3 m3 c3 hB);have HB0:=zak (za7 (za7 (Below.refl w.heap.size w) (.cells (msV (⟨kd,ix,sub,tg,la,cr,sz,size,code,data,sq,bl,em,sum⟩:Ms) A3 m3 c3) 95)) (.cells (outV none 0 0 outZ none 0 0) 93));have HS0:=zak hS;clear hP hS hB;unfold msV outV outZ at HX HB0;unfold msV;go_enter Tryz.func92,Tryz.ntmps92
 go_upto_region 1 with fail
 refine zb6 (P:=fun W=>BX w p pd (KMO w (⟨kd,ix,sub,tg,la,cr,sz,size,code,data,sq,bl,em,sum⟩:Ms) A3 m3 c3) S A n1 c1 W∧Below w.heap.size w W) ⟨HX.out,HB0.out⟩ (fun W hW=>?_);clear HX HB0;obtain⟨hX,hbw⟩:=hW;have HX:=zak hX;have HBW:=zak hbw;have k1:=hX.msg;have bb:=hX.2.1;have zW:=bb.lt;have zk1:=k1.lt;have zo1:=hX.out.lt;unfold msV at k1;unfold bsrV at bb;dsimp only at bb k1;rw[←hst] at bb;obtain⟨am,ai,aj,an,ah,ak,al,ao,ap,aq,aa,ab,ac,ae⟩:=zbd k1;have aD:=k1.frozen;obtain⟨ar,au,av,aw,ax,ay,az,aA,aB,aC,af,ag⟩:=zbc bb;have aE:=bb.frozen;clear hX hbw;have HS9:Hid (S.st≠0):=zak (by rw[h5];decide);by_cases hlt:S.ro < sq
 · obtain rfl:cd=84148227:=by rw[hcd.out,if_pos hlt]
   clear h5 hst hcd hno
   go_quiet (fail)
   go_wp2_with fail
   refine (zis p pd S 84148227 A n1 c1 _ (HX.out.step kBl).2.1 HS9.out).mono ?_;rintro e w5 ⟨g,hg,rfl,hBg,hBp,ho⟩;have hgz:w.heap.size+2≤g:=Nat.le_trans (HX.out.step kBl).2.2.2 hg;have k2:=zhe (HX.out.step kBl).out ho (fun e=>hne1 e.symm);have HK2:=zak k2;have HBG:=zak hBg;have HS5:Hid (BV_ w5 (fun q=>((G q∨w.heap.size≤q)∧ ¬False)∧ q≠w.heap.size+1) p pd (blkIdle S)):=zak (zi0 hBp);have HO5:=zak ((HX.out.step kBl).1.trans ho (fun _ _ h=>h));unfold outV outZ at k2;unfold outV outZ;dsimp only;clear am ai aj an ah ak al ao ap aq aa ab ac ae aD;clear ar au av aw ax ay az aA aB aC af ag aE;obtain⟨aF,aG,aH,aI,aJ⟩:=za9 k2
   have aP:=k2.frozen;clear hBg hBp ho k1 bb;go_wp2_with fail
   obtain⟨F1,F2⟩:=zi1 (fun _=>False) HK2.out hgz (M:=abM S.ix S.sub 84148227) HBG.out (zbs.nil _ _) (FIn.nil _) HS5.out HO5.out hz;rw[←HP.out] at F2;unfold putO outZ at F1 F2;dsimp only at F1 F2;refine zhr (O:=⟨[],false,0,0,[]⟩) rfl rfl rfl F1 ?_;exact F2
 · obtain rfl:cd=84148226:=by rw[hcd.out,if_neg hlt]
   obtain rfl:bl=0:=by rcases hno with h | h;exact absurd h hlt;exact h
   clear h5 hst hcd
   go_quiet (fail)
   go_wp2_with fail
   refine (zis p pd S 84148226 A n1 c1 _ (HX.out.step kBl).2.1 HS9.out).mono ?_;rintro e w5 ⟨g,hg,rfl,hBg,hBp,ho⟩;have hgz:w.heap.size+2≤g:=Nat.le_trans (HX.out.step kBl).2.2.2 hg;have k2:=zhe (HX.out.step kBl).out ho (fun e=>hne1 e.symm);have HK2:=zak k2;have HBG:=zak hBg;have HS5:Hid (BV_ w5 (fun q=>((G q∨w.heap.size≤q)∧ ¬False)∧ q≠w.heap.size+1) p pd (blkIdle S)):=zak (zi0 hBp);have HO5:=zak ((HX.out.step kBl).1.trans ho (fun _ _ h=>h));unfold outV outZ at k2;unfold outV outZ;dsimp only;clear am ai aj an ah ak al ao ap aq aa ab ac ae aD;clear ar au av aw ax ay az aA aB aC af ag aE;obtain⟨aF,aG,aH,aI,aJ⟩:=za9 k2
   have aP:=k2.frozen;clear hBg hBp ho k1 bb;go_wp2_with fail
   obtain⟨F1,F2⟩:=zi1 (fun _=>False) HK2.out hgz (M:=abM S.ix S.sub 84148226) HBG.out (zbs.nil _ _) (FIn.nil _) HS5.out HO5.out hz;rw[←HP.out] at F2;unfold putO outZ at F1 F2;dsimp only at F1 F2;refine zhr (O:=⟨[],false,0,0,[]⟩) rfl rfl rfl F1 ?_;exact F2
end
end Go.Proofs.YtkkpjbjmhaecjaaGreat
