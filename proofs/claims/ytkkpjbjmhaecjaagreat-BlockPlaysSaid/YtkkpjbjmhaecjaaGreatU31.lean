/- None -/
import Derived.Test.YtkkpjbjmhaecjaaGreatU30
namespace Go.Proofs.YtkkpjbjmhaecjaaGreat
set_option linter.all false
set_option maxRecDepth 100000
set_option maxHeartbeats 4000000
section
open Go.RowKit
theorem zlb (a:Nat)(ha:U16 a):bits .xor .i64 (a:Int) 4129=((a ^^^ 4129:Nat):Int):=by
 have ha':a < 65536:=ha;have hx:a ^^^ 4129 < 2 ^ 16:=Nat.xor_lt_two_pow (by omega) (by omega);show IntKind.i64.wrap ((BitVec.ofInt 64 (a:Int) ^^^ BitVec.ofInt 64 ((4129:Nat):Int)).toNat:Int)=_;rw[BitVec.toNat_xor,ofInt_u64 a (by omega),ofInt_u64 4129 (by omega)];exact IntWalk.i64_in _ (by omega)
theorem zlc (r b:Nat)(h:r / 32768=b):c16Bit r b=r * 2 % 65536:=by rw[c16Bit,if_pos h]
theorem zld (r b:Nat)(h: ¬r / 32768=b):c16Bit r b=(r * 2 % 65536) ^^^ 4129:=by rw[c16Bit,if_neg h]
theorem p128 (j:Nat)(hj:j < 8):128 / 2 ^ j=2 ^ (7 - j)∧ 128 / 2 ^ (j+1)=128 / 2 ^ j / 2∧1≤128 / 2 ^ j∧128 / 2 ^ j≤128:=by
 have:j=0∨j=1∨j=2∨j=3∨j=4∨j=5∨j=6∨j=7:=by omega
 rcases this with rfl | rfl | rfl | rfl | rfl | rfl | rfl | rfl<;>decide
theorem zle (A:Option Addr)(n c s:Nat)(l:List UInt8)(w:World)(hn:n=l.length)(hl:n≤35184372088832)(hu:U16 s)(hs:Sl w A (l.map bv)) :
 Calls Tryz.prog 209 #[.int .u16 (s:Nat),.slice A n c] w fun e w'=>e= .returned (.int .u16 (c16L s l:Nat))∧ w=w':=by
 have HN:=zak hn;have hu':s≤65535:=by unfold U16 at hu;omega
 clear hn;go_enter Tryz.func209,Tryz.ntmps209
 go_wp2_with fail
 go_loop [5,6,7,8,9] (fun r i _ _ _=> ∃k:Nat,k≤n∧i= .int .i64 (k:Nat)∧ r= .int .i64 (c16L s (l.take k):Nat)) (fun _ i _ _ _=>n - (intOf i).toNat)
 case atStart=>exact⟨0,by omega,rfl,rfl⟩
 case round=>
  obtain⟨k,hk,rfl,rfl⟩:=hrel;have hrl:=zif hu (l.take k);obtain⟨r,hr⟩:∃r,r=c16L s (l.take k):=⟨_,rfl⟩;rw[←hr] at hrl ⊢;have HR:=zak hr;clear hr;by_cases hlt:k < n
  · obtain⟨ad,rfl,hcell⟩:=hs.byte (j:=k) (by have:=HN.out;omega);obtain⟨b,hb⟩:∃b,b=(l[k]'(by have:=HN.out;omega)).toNat:=⟨_,rfl⟩;have lb:b < 256:=by rw[hb];exact UInt8.toNat_lt _
    rw[←hb] at hcell;have HK:=zak (show c16L s (l.take (k+1))=c16Bits r b 8 by rw[zih _ _ _ (by have:=HN.out;omega),hb,HR.out]);clear hb;go_wp2_with fail
    go_loop [5,7,8,9] (fun x y i _=> ∃j:Nat,j≤8∧i= .int .i64 (j:Nat)∧ x= .int .i64 (c16Bits r b j:Nat)∧ y= .int .i64 (128 / 2 ^ j:Nat)) (fun _ _ i _=>8 - (intOf i).toNat)
    case atStart=>exact⟨0,by omega,rfl,rfl,rfl⟩
    case round=>
     obtain⟨j,hj,rfl,rfl,rfl⟩:=hrel;have hxl:=zie hrl b j;by_cases hj8:j < 8
     · obtain⟨y1,y2,y3,y4⟩:=p128 j hj8;have HS:=zak (show c16Bits r b (j+1)=c16Bit (c16Bits r b j) (b / (128 / 2 ^ j) % 2) by rw[y1];rfl);have HY:=zak y2;obtain⟨x,hx⟩:∃x,x=c16Bits r b j:=⟨_,rfl⟩;obtain⟨y,hy⟩:∃y,y=128 / 2 ^ j:=⟨_,rfl⟩;rw[←hx] at hxl HS ⊢;rw[←hy] at y3 y4 HS HY ⊢;clear hx hy y1 y2;have hxl':x≤65535:=by unfold U16 at hxl;omega
       have hxp:=zlb (x * 2 % 65536) (show x * 2 % 65536 < 65536 from Nat.mod_lt _ (by decide));have hy0: ¬(y:Int)=0:=by omega
       obtain⟨q,hq⟩:∃q,q=b / y:=⟨_,rfl⟩;have hqi:(b:Int) / (y:Int)=(q:Int):=by rw[hq];simp
       have hqt:(b:Int).tdiv (y:Int)=(q:Int):=by rw[hq];exact (Int.ofNat_tdiv b y).symm
       have hql:q≤255:=by rw[hq];exact Nat.le_trans (Nat.div_le_self _ _) (by omega)
       rw[←hq] at HS;clear hq;by_cases hp:x / 32768=q % 2
       · have hp':((x:Int) / 32768 != (q:Int) % 2)=false:=by simp;omega
         have HP:=zak hp;clear hp;go_wp2_with fail
         go_round
         case rel=>exact⟨j+1,by omega,by go_num,by rw[HS.out,zlc _ _ HP.out];go_num,by rw[HY.out];go_num⟩
         case measure=>simp[intOf];omega
       · have hp':((x:Int) / 32768 != (q:Int) % 2)=true:=by simp;omega
         have HP:=zak hp;clear hp;go_wp2_with fail
         go_round
         case rel=>exact⟨j+1,by omega,by go_num,by rw[HS.out,zld _ _ HP.out,←hxp];rfl,by rw[HY.out];go_num⟩
         case measure=>simp[intOf];omega
     · obtain rfl:j=8:=by omega
       clear hcell;go_wp2_with fail
       go_round
       case rel=>exact⟨k+1,by omega,by go_num,by rw[HK.out]⟩
       case measure=>simp[intOf];omega
  · obtain rfl:k=n:=by omega
    have HT:=zak (show l.take k=l from List.take_of_length_le (by have:=HN.out;omega));have hrl':r≤65535:=by unfold U16 at hrl;omega
    go_wp2_with fail
    go_ret
    exact⟨zau (by rw[←HT.out,←HR.out];try omega),rfl⟩
theorem zlf (A:Option Addr)(n c:Nat)(l:List UInt8)(w:World)(hn:n=l.length)(hl:n≤35184372088832)(hs:Sl w A (l.map bv)) :
 Calls Tryz.prog 170 #[.slice A n c] w fun e w'=>e= .returned (.int .u16 (sum16L l:Nat))∧ w=w':=by
 have h:=zle A n c 0 l w hn hl (by unfold U16;omega) hs;rw[show (((0:Nat)):Int)=0 from rfl] at h;have HH:=zak h;clear h hn;go_enter Tryz.func170,Tryz.ntmps170
 go_wp2_with fail
 refine HH.out.mono ?_;rintro e w1 ⟨rfl,rfl⟩;go_wp2_with fail
 go_ret
 exact⟨rfl,rfl⟩
end
section
open Go.RowKit Go.Maps
section
variable {pd:Nat}
theorem zlg (p:Nat)(S:BlkS)(G:Nat→Prop)(M:Ms)(A3:Option Addr)(m3 c3:Nat)(w:World)(hS:RBV w G p pd S)(h2:S.st=2)(hw:BWf S)(hM:BMOk M)(he:M.em≤S.b.length)(hsz: -1≤S.sz) :
 Calls Tryz.prog 110 #[.pointer (some ⟨p,0,none⟩),.agg (msV M A3 m3 c3)] w (RBO w G p pd (bendS S M) (bendO S M)):=by
 obtain⟨A,n1,c1,hR⟩:=hS.rn;obtain⟨P,hP⟩:∃P,P=RBO w G p pd (bendS S M) (bendO S M):=⟨_,rfl⟩;rw[←hP];have HP:=zak hP;have hz:=hR.lt;have h0:S.st≠0:=by omega
 have H0:=zak h0;have hbl:S.b.length≤263:=by have a:=hw.b12 (.inr h2);have b:=hw.mo;omega
 have hnn:n1=S.b.length:=hR.rn (List.mem_singleton.2 rfl);have hcc:n1≤c1:=hR.rc (List.mem_singleton.2 rfl);have hem:=hM.em;obtain⟨k,hk⟩:∃k:Nat,(k:Int)=(n1:Int) - M.em:=⟨((n1:Int) - M.em).toNat,by omega⟩;have hk2:k≤n1:=by omega
 have hn263:n1≤263:=by omega
 obtain⟨l,hl⟩:∃l,l=S.b.take k:=⟨_,rfl⟩;have HL:=zak hl;have HBE:Hid (bendB S M=l):=zak (by rw[hl];unfold bendB;congr 1;omega);have HLK:Hid (k=l.length):=zak (by rw[hl,List.length_take];omega);have HNN:=zak hnn;have HSZ:=zak hsz;have hk':(n1:Int) - M.em=(k:Int):=hk.symm;have HRW:Hid (∀ad,A=some ad→ad.block≠w.heap.size+1):=zak (fun ad e=>by have:=((hR.rows _ (List.mem_singleton.2 rfl)).2.2.2 ad e).2.1;omega);have HH:=zak (hR.new2 rfl 30 118 (msL_ M A3 m3 c3) (outL_ none 0 0 outZ none 0 0));clear hP hS hR hbl h0 hw hM hnn hk h2 hl hsz;unfold msL_ outL_ outZ at HH;unfold msV;go_enter Tryz.func110,Tryz.ntmps110
 go_upto_region 1 with fail
 refine zb6 (P:=fun W=>RN w G p (rbkL S pd A n1 c1) [⟨w.heap.size+1,118,outL_ none 0 0 outZ none 0 0⟩,⟨w.heap.size,30,msL_ M A3 m3 c3⟩] [⟨A,n1,c1,S.b⟩] W) HH.out (fun W hW=>?_);clear HH;have HX:=zak hW;have k1:=hW.k1;have bb:=hW.blk;have hne0:w.heap.size≠p:=by omega
 clear hW;unfold msL_ at k1;unfold rbkL at bb;have zk1:=k1.lt;have zp:=bb.lt;obtain⟨am,ai,aj,an,ah,ak,al,ao,ap,aq,aa,ab,ac,ae⟩:=zbd k1;have aD:=k1.frozen;obtain⟨ar,au,av,aw,ax,ay,az,aA,aB,aC,af,ag⟩:=zbc bb;have aE:=bb.frozen
 go_quiet (fail)
 go_upto_region 2 with fail
 refine zb6 (P:=fun W=>RN w G p (rbkL S pd A n1 c1) [⟨w.heap.size+1,118,outL_ none 0 0 outZ none 0 0⟩,⟨w.heap.size,30,msL_ M A3 m3 c3⟩] [⟨A,n1,c1,S.b⟩] W) (HX.out.step (zbn (Below.refl _ _) _)) (fun W2 h2=>?_);clear am ai aj an ah ak al ao ap aq aa ab ac ae aD;clear ar au av aw ax ay az aA aB aC af ag aE;clear HX k1 bb zk1 zp hk';have HX2:=zak h2;have q13:W2.cell? ⟨w.heap.size,13,none⟩=some (.int .u16 (M.sum:Nat)):=h2.k1.cell 13 rfl;have b7:W2.cell? ⟨p,7,none⟩=some (.bool S.sm):=h2.blk.cell 7 rfl;have z1:=h2.lt;have zg:w.heap.size < W2.heap.size:=h2.k1.lt;have HSL:Hid (Sl W2.drew A (l.map bv)):=zak (by rw[HL.out,List.map_take];exact (h2.drew.sl (List.mem_singleton.2 rfl)).take_ k)
 clear h2;obtain⟨sb,hsb⟩:∃sb:Bool,sb=(S.sm && ((sum16L l:Int) != (M.sum:Int))):=⟨_,rfl⟩;have HSB:=zak hsb;clear hsb;go_cut [19] (fun s19 wx=>s19= .bool sb∧Hid (RN w G p (rbkL S pd A n1 c1) [⟨w.heap.size+1,118,outL_ none 0 0 outZ none 0 0⟩,⟨w.heap.size,30,msL_ M A3 m3 c3⟩] [⟨A,n1,c1,S.b⟩] wx))
 case first=>
  rcases Bool.eq_false_or_eq_true S.sm with hsm | hsm
  · rw[hsm] at b7;obtain⟨nb,hnb⟩:∃nb:Bool,nb=((sum16L l:Int) != (M.sum:Int)):=⟨_,rfl⟩;have hsn:sb=nb:=by rw[HSB.out,hsm,hnb];rfl
    have hnb2:=hnb.symm;have HSN:=zak hsn;clear hsm hnb hsn;refine wp_region_held_drew (S:=(fun w'=>(∀qA:Addr,qA.block < (W2).heap.size→w'.cell? qA=(W2).cell? qA)∧ Below (W2).heap.size (W2) w')) (by kernel_rfl) ?hS1 (fun hHeld=>?rest1)
    case hS1=>exact kSn
    case' rest1=>skip
    iterate 6 (refine tkN ?_;try simp only[PqL,Act.put])
    refine tkH 7 ?_;try simp only[PqL,Act.put]
    refine tkH 8 ?_;try simp only[PqL,Act.put]
    refine kRd 6 (fun K hK=>?_)
    go_simp
    refine (zlf A k c1 l _ HLK.out (by omega) HSL.out).mono ?_;rintro e w3 ⟨rfl,hw3⟩;subst hw3;dsimp only;refine hK.out _ _ ?hS12 (fun hHeld=>?rest12)
    case hS12=>exact kSn
    case' rest12=>(clear hK K;try simp only[PqL,Act.put])
    refine tkH 9 ?_;try simp only[PqL,Act.put]
    refine tkH 10 ?_;try simp only[PqL,Act.put]
    refine tkH 11 ?_;try simp only[PqL,Act.put]
    refine wpAnyH_done (by kernel_rfl) ?_ _;have hEnd:=hHeld.2
    repeat (clear hHeld)
    go_wp2_with fail
    go_meet
    exact⟨by rw[HSN.out],zak (HX2.out.step hEnd)⟩
  · rw[hsm] at b7;have HSN:Hid (sb=false):=zak (by rw[HSB.out,hsm];rfl);clear hsm;refine wp_region_held_drew (S:=(fun w'=>(∀qA:Addr,qA.block < (W2).heap.size→w'.cell? qA=(W2).cell? qA)∧ Below (W2).heap.size (W2) w')) (by kernel_rfl) ?hS17 (fun hHeld=>?rest17)
    case hS17=>exact kSn
    case' rest17=>skip
    iterate 5 (refine tkN ?_;try simp only[PqL,Act.put])
    iterate 5 (refine tkV ?_;try simp only[PqL,Act.put])
    iterate 2 (refine tkN ?_;try simp only[PqL,Act.put])
    refine wpAnyH_done (by kernel_rfl) ?_ _;have hEnd:=hHeld.2
    repeat (clear hHeld)
    go_wp2_with fail
    go_meet
    exact⟨by rw[HSN.out],zak (HX2.out.step hEnd)⟩
 case rest=>
  obtain⟨rfl,HX3⟩:=hcut;clear HX2 q13 b7 z1 zg HSL;rcases Bool.eq_false_or_eq_true sb with hs | hs
  · have HC1:Hid (S.sm=true∧sum16L l≠M.sum):=zak (by
     have h:=HSB.out;rw[hs] at h;have h:=h.symm;simp at h;exact⟨h.1,fun e=>h.2 (by rw[e])⟩)
    subst hs;have HR:Hid (P=RBO w G p pd (blkIdle S) (outL (bAbortL S 84148228))):=zak (by
     have hc:becode S M=84148228:=by unfold becode;rw[HBE.out,if_pos HC1.out]
     rw[HP.out];unfold bendS bendO;rw[hc,if_pos (by decide),if_pos (by decide)]
     rfl)
    have HAB:=zak (zkn S A n1 c1 84148228 wc HX3.out H0.out);have hwz:w.heap.size+2≤wc.heap.size:=by have:=HX3.out.k0.lt;show _+1 < _;exact this
    go_wp2_with fail
    refine HAB.out.mono ?_;rintro e w8 ⟨g8,hg8,rfl,hM8,hR8,ho8⟩;have HX8:=zak hR8;have zg8:w.heap.size+2≤g8:=Nat.le_trans hwz hg8;have HM8:=zak hM8;have k2:=hR8.k0;unfold outL_ outZ at k2;have zk2:=k2.lt;obtain⟨aF,aG,aH,aI,aJ⟩:=za9 k2;have aP:=k2.frozen;clear hM8 hR8 ho8 HAB;go_wp2_with fail
    obtain⟨F1,F2⟩:=zk9 (ks:=[]) (HX8.out.sub (by simp)) HRW.out HM8.out zg8 H0.out;rw[←HR.out] at F2;unfold putO outZ at F1 F2;dsimp only at F1 F2;exact zkf (O:=outZ) rfl rfl rfl F1 F2
  · have HC1:Hid (¬(S.sm=true∧sum16L l≠M.sum)):=zak (by
     rintro⟨h1,h2⟩;have h:=HSB.out;rw[hs,h1] at h;simp at h;exact h2 (by exact_mod_cast h))
    subst hs;go_upto_region 4 with fail
    obtain⟨tb,htb⟩:∃tb:Bool,tb=(decide (0≤S.sz) && ((k:Int) != S.sz)):=⟨_,rfl⟩;have HTB:=zak htb;clear htb;have b5:wc.cell? ⟨p,5,none⟩=some (.int .i64 S.sz):=HX3.out.blk.cell 5 rfl;have z1:=HX3.out.lt;go_cut [34] (fun s34 wx=>s34= .bool tb∧Hid (RN w G p (rbkL S pd A n1 c1) [⟨w.heap.size+1,118,outL_ none 0 0 outZ none 0 0⟩,⟨w.heap.size,30,msL_ M A3 m3 c3⟩] [⟨A,n1,c1,S.b⟩] wx))
    case first=>
     by_cases hs0:0≤S.sz
     · have hd0:decide (0≤S.sz)=true:=decide_eq_true hs0;have HTN:Hid (tb=((k:Int) != S.sz)):=zak (by rw[HTB.out,hd0];rfl);go_wp2_with fail
       go_meet
       exact⟨by rw[HTN.out],HX3⟩
     · have hd0:decide (0≤S.sz)=false:=decide_eq_false hs0;have HTN:Hid (tb=false):=zak (by rw[HTB.out,hd0];rfl);go_wp2_with fail
       go_meet
       exact⟨by rw[HTN.out],HX3⟩
    case rest=>
     obtain⟨rfl,HX4⟩:=hcut;clear HX3 b5 z1;rcases Bool.eq_false_or_eq_true tb with hs | hs
     · have HC2:Hid (S.sz≠ -1∧S.sz≠(l.length:Int)):=zak (by
        have h:=HTB.out;rw[hs] at h;have h:=h.symm;simp at h;have h1:=HLK.out;exact⟨by omega,fun e=>h.2 (by omega)⟩)
       subst hs;have HR:Hid (P=RBO w G p pd (blkIdle S) (outL (bAbortL S 101122064))):=zak (by
        have hc:becode S M=101122064:=by unfold becode;rw[HBE.out,if_neg HC1.out,if_pos HC2.out]
        rw[HP.out];unfold bendS bendO;rw[hc,if_pos (by decide),if_pos (by decide)]
        rfl)
       have HAB:=zak (zkn S A n1 c1 101122064 wc HX4.out H0.out);have hwz:w.heap.size+2≤wc.heap.size:=by have:=HX4.out.k0.lt;show _+1 < _;exact this
       go_wp2_with fail
       refine HAB.out.mono ?_;rintro e w8 ⟨g8,hg8,rfl,hM8,hR8,ho8⟩;have HX8:=zak hR8;have zg8:w.heap.size+2≤g8:=Nat.le_trans hwz hg8;have HM8:=zak hM8;have k2:=hR8.k0;unfold outL_ outZ at k2;have zk2:=k2.lt;obtain⟨aF,aG,aH,aI,aJ⟩:=za9 k2;have aP:=k2.frozen;clear hM8 hR8 ho8 HAB;go_wp2_with fail
       obtain⟨F1,F2⟩:=zk9 (ks:=[]) (HX8.out.sub (by simp)) HRW.out HM8.out zg8 H0.out;rw[←HR.out] at F2;unfold putO outZ at F1 F2;dsimp only at F1 F2;exact zkf (O:=outZ) rfl rfl rfl F1 F2
     · have HC2:Hid (¬(S.sz≠ -1∧S.sz≠(l.length:Int))):=zak (by
        rintro⟨h1,h2⟩;have h:=HTB.out;have h3:=HSZ.out;have h4:=HLK.out;rw[hs,decide_eq_true (show 0≤S.sz by omega)] at h;simp at h;exact h2 (by omega))
       subst hs;go_upto_region 6 with fail
       have b4:wc.cell? ⟨p,4,none⟩=some (.int .i64 S.mo):=HX4.out.blk.cell 4 rfl;have z1:=HX4.out.lt;by_cases hmo:S.mo < (k:Int)
       · have hgt:decide (S.mo < (k:Int))=true:=decide_eq_true hmo;go_upto_region 7 with fail
         refine zb6 (P:=fun W=>RN w G p (rbkL S pd A n1 c1) [⟨w.heap.size+1,118,outL_ none 0 0 outZ none 0 0⟩,⟨w.heap.size,30,msL_ M A3 m3 c3⟩] [⟨A,n1,c1,S.b⟩] W) HX4.out (fun W5 h5=>?_);have HX5:=zak h5;clear h5 b4 z1;have HR:Hid (P=RBO w G p pd (blkIdle S) (outL (bAbortL S 101122066))):=zak (by
          have hc:becode S M=101122066:=by unfold becode;rw[HBE.out,if_neg HC1.out,if_neg HC2.out,if_pos (by rw[←HLK.out];exact hmo)]
          rw[HP.out];unfold bendS bendO;rw[hc,if_pos (by decide),if_pos (by decide)]
          rfl)
         have HAB:=zak (zkn S A n1 c1 101122066 W5 HX5.out H0.out);have hwz:w.heap.size+2≤W5.heap.size:=by have:=HX5.out.k0.lt;show _+1 < _;exact this
         go_wp2_with fail
         refine HAB.out.mono ?_;rintro e w8 ⟨g8,hg8,rfl,hM8,hR8,ho8⟩;have HX8:=zak hR8;have zg8:w.heap.size+2≤g8:=Nat.le_trans hwz hg8;have HM8:=zak hM8;have k2:=hR8.k0;unfold outL_ outZ at k2;have zk2:=k2.lt;obtain⟨aF,aG,aH,aI,aJ⟩:=za9 k2;have aP:=k2.frozen;clear hM8 hR8 ho8 HAB;go_wp2_with fail
         obtain⟨F1,F2⟩:=zk9 (ks:=[]) (HX8.out.sub (by simp)) HRW.out HM8.out zg8 H0.out;rw[←HR.out] at F2;unfold putO outZ at F1 F2;dsimp only at F1 F2;exact zkf (O:=outZ) rfl rfl rfl F1 F2
       · have hgt:decide (S.mo < (k:Int))=false:=decide_eq_false hmo;have HR:Hid (P=RBO w G p pd { S with st:=3 } ⟨[],true,S.ix,S.sub,l⟩):=zak (by
          have hc:becode S M=0:=by unfold becode;rw[HBE.out,if_neg HC1.out,if_neg HC2.out,if_neg (by rw[←HLK.out];exact hmo)]
          rw[HP.out];unfold bendS bendO;rw[hc,if_neg (by simp),if_neg (by simp),HBE.out])
         go_upto_region 8 with fail
         refine zb6 (P:=fun W=>RN w G p (rbkL S pd A n1 c1) [⟨w.heap.size+1,118,outL_ none 0 0 outZ none 0 0⟩,⟨w.heap.size,30,msL_ M A3 m3 c3⟩] [⟨A,n1,c1,S.b⟩] W) HX4.out (fun W5 h5=>?_);have H6:Hid (RN w G p (rbkL { S with st:=3 } pd A n1 c1) [⟨w.heap.size+1,118,outL_ none 0 0 outZ none 0 0⟩,⟨w.heap.size,30,msL_ M A3 m3 c3⟩] [⟨A,n1,c1,S.b⟩] (W5.setCell ⟨p,1,none⟩ (.int .i64 3))):=zak (h5.set 1 _);have b1:W5.cell? ⟨p,1,none⟩=some (.int .i64 S.st):=h5.blk.cell 1 rfl;have f1:=h5.blk.frozen 1;have z5:=h5.lt;clear h5 b4 z1;go_upto_region 9 with fail
         refine zb6 (P:=fun W=>RN w G p (rbkL { S with st:=3 } pd A n1 c1) [⟨w.heap.size+1,118,outL_ none 0 0 outZ none 0 0⟩,⟨w.heap.size,30,msL_ M A3 m3 c3⟩] [⟨A,n1,c1,S.b⟩] W) H6.out (fun W9 h9=>?_);clear H6 b1 f1 z5 HX4;have HX9:=zak h9;have hwz:w.heap.size+2≤W9.heap.size:=by have:=h9.k0.lt;show _+1 < _;exact this
         have d2:W9.cell? ⟨p,2,none⟩=some (.int .i64 S.ix):=h9.blk.cell 2 rfl;have d3:W9.cell? ⟨p,3,none⟩=some (.int .i64 S.sub):=h9.blk.cell 3 rfl;have z9:=h9.lt;have HSL:Hid (Sl W9.drew A (l.map bv)):=zak (by rw[HL.out,List.map_take];exact (h9.drew.sl (l:=S.b) (List.mem_singleton.2 rfl)).take_ k);clear h9;refine zaj (fun w'=>w'.cell? ⟨p,2,none⟩=some (.int .i64 S.ix)∧ w'.cell? ⟨p,3,none⟩=some (.int .i64 S.sub)) [0,1,2,3,4,5,6,7,8,9,10,11] (by kernel_rfl) ?hS31 (fun hHeld=>?rest31)
         case hS31=>((try dsimp only);exact⟨d2,d3⟩)
         case' rest31=>skip
         refine tkT 0 ?_;try simp only[PqL,Act.put]
         refine tkT 1 ?_;try simp only[PqL,Act.put]
         refine tkT 2 ?_;try simp only[PqL,Act.put]
         refine tkT 3 ?_;try simp only[PqL,Act.put]
         refine tkT 4 ?_;try simp only[PqL,Act.put]
         refine tkT 5 ?_;try simp only[PqL,Act.put]
         refine tkT 6 ?_;try simp only[PqL,Act.put]
         refine tkT 7 ?_;try simp only[PqL,Act.put]
         refine tkT 8 ?_;try simp only[PqL,Act.put]
         refine zag (i:=9) (o:=_) rfl (by kernel_rfl) (fun K hK=>?_)
         go_simp
         refine (zep none A 0 k 0 c1 [] l _ rfl HLK.out (by omega) (by omega) (Sl.nil _ _) HSL.out).mono ?_;rintro e w3 ⟨A5,n5,c5,rfl,hO5,hb5⟩;dsimp only;have hn5:n5=k:=by have:=hO5.hn;rw[List.nil_append] at this;rw[this,←HLK.out]
         subst hn5;rw[List.nil_append] at hO5;replace hb5:=zhy hb5;have HX5:=zak (HX9.out.step hb5);have HO5:=zak (hO5.mono (B':=w.heap.size) (by show w.heap.size≤W9.heap.size;omega));have HF5:Hid (FIn (fun g=>g≠w.heap.size+1) A5):=zak (fun g hg=>by have:=(hO5.own.fin g hg).1;have:W9.heap.size≤g:=this;omega);have g2:w3.cell? ⟨p,2,none⟩=some (.int .i64 S.ix):=HX5.out.blk.cell 2 rfl;have g3:w3.cell? ⟨p,3,none⟩=some (.int .i64 S.sub):=HX5.out.blk.cell 3 rfl;have kk:=HX5.out.k0;clear hO5 hb5;unfold outL_ outZ at kk;have zkk:=kk.lt;obtain⟨aK,aL,aM,aN,aO⟩:=za9 kk;have aQ:=kk.frozen;refine hK.out _ _ ?hS42 (fun hHeld=>?rest42)
         case hS42=>((try dsimp only);(exact⟨g2,g3⟩))
         case' rest42=>(clear hK K;try simp only[PqL,Act.put])
         refine tkT 10 ?_;try simp only[PqL,Act.put]
         refine tkT 11 ?_;try simp only[PqL,Act.put]
         refine zah (i:=12) (o:=_) rfl (by kernel_rfl) (by kernel_rfl) (fun K hK=>?_)
         go_simp
         refine hK.out _ _ ?rest46
         case' rest46=>(clear hK K;try simp only[PqL,Act.put])
         refine zai (by kernel_rfl) ?_ _
         repeat (clear hHeld)
         go_wp2_with fail
         obtain⟨F1,F2⟩:=zkl (S:={ S with st:=3 }) (O:=⟨[],true,S.ix,S.sub,l⟩) (As:=none) (ns:=0) (cs:=0) (ds:=[]) (A9:=A5) (ks:=[]) (HX5.out.sub (by simp)) (List.mem_singleton.2 rfl) (Nat.le_succ _) (fun r hr=>by simp at hr;subst hr;exact HRW.out) (zb2.nil _ _) HO5.out HF5.out;rw[←HR.out] at F2;unfold putO at F1 F2;dsimp only at F1 F2;exact zkf (O:=⟨[],true,S.ix,S.sub,l⟩) rfl rfl rfl F1 F2
end
end
end Go.Proofs.YtkkpjbjmhaecjaaGreat
