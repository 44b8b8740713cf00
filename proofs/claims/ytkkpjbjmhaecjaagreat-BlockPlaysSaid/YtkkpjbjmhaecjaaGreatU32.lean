/- None -/
import Derived.Test.YtkkpjbjmhaecjaaGreatU30
namespace Go.Proofs.YtkkpjbjmhaecjaaGreat
set_option linter.all false
set_option maxRecDepth 100000
set_option maxHeartbeats 8000000
section
open Go.RowKit Go.Maps
theorem zlh:(Tryz.prog.info? 30).map (fun i=>(i.zero,i.size,i.bytes))=some (some (.agg #[.int .i64 0,.int .i64 0,.int .i64 0,.bool false,.bool false,.bool false,.bool false,.int .u32 0,.int .u32 0,.slice none 0 0,.int .i64 0,.int .i64 0,.int .i64 0,.int .u16 0]),14,96):=by kernel_rfl
theorem RN.above {w0 W W':World}{G:Nat→Prop}{p M:Nat}{cs:List Value}{ks:List KB}{rs:List RW}(h:RN w0 G p cs ks rs W)(hb:Below M W W')(hM:w0.heap.size≤M)(hp:p < M)(hk:∀x ∈ ks,x.g < M)(hr:∀r ∈ rs,∀ad,r.A=some ad→ad.block < M):RN w0 G p cs ks rs W':=by
 refine⟨(hb.block p hp).trans h.blk,h.lt0,⟨hb.os.trans h.only.os,hb.tape.trans h.only.tape,hb.output.trans h.only.output,Nat.le_trans h.only.size hb.size,fun i hi hF=>(hb.block i (Nat.lt_of_lt_of_le hi hM)).trans (h.only.block i hi hF)⟩,fun x hx=>⟨(h.keep x hx).1,(hb.block x.g (hk x hx)).trans (h.keep x hx).2⟩,fun r hr'=>?_⟩;obtain⟨h1,h2,h3,h4⟩:=h.rows r hr';exact⟨h1,h2,zkh h3 (fun ad e=>hb.block _ (hr r hr' ad e)),fun ad e=>⟨(h4 ad e).1,Nat.lt_of_lt_of_le (h4 ad e).2.1 hb.size,(h4 ad e).2.2⟩⟩
theorem RN.up2 {w W W':World}{G:Nat→Prop}{p n c:Nat}{T1 T2:TypeId}{l1 l2:List Value}{A:Option Addr}{b:List UInt8}{cs:List Value}(h:RN w G p cs [⟨w.heap.size+1,T1,l1⟩,⟨w.heap.size,T2,l2⟩] [⟨A,n,c,b⟩] W)(hb:Below (w.heap.size+2) W W')(hA:∀r ∈ ([⟨A,n,c,b⟩]:List RW),∀ad,r.A=some ad→ad.block < w.heap.size):RN w G p cs [⟨w.heap.size+1,T1,l1⟩,⟨w.heap.size,T2,l2⟩] [⟨A,n,c,b⟩] W':=
 h.above hb (by omega) (by have:=h.lt0;omega) (fun x hx=>by simp at hx;rcases hx with rfl | rfl<;>simp) (fun r hr ad e=>by have:=hA r hr ad e;omega)
theorem zli {α:Type}{f: α→Option Addr×Nat→List Value}{k:Nat}{e:TypeId}{dat: α→List UInt8}{w:World}{F:Nat→Prop}{A:Option Addr}{n c:Nat}{L:List α}{ds:List (Option Addr×Nat)}(h:zb2 f k e dat w F A n c L ds){q:Nat}(hq:Value.ownBlock (.slice A n c)=some q):F q:=by
 rcases h.own.shape with ⟨h1,_⟩ | ⟨g,h1,_⟩
 · rw[h1] at hq;simp[Value.ownBlock] at hq
 · rw[h1] at hq;simp[Value.ownBlock] at hq;subst hq;exact h.inF _ h1
def GvR (w:World) (G:Nat→Prop) (p pd:Nat) (S:BlkS) (A:Option Addr) (n1 c1 r tot h:Nat) (vi:Value) (wr:World):Prop:=
 ∃(k:Nat) (A':Option Addr) (c':Nat) (ds:List (Option Addr×Nat)),vi= .int .i64 ((k:Int)+1)∧ k≤r∧RN w G p (rbkL S pd A n1 c1) [⟨w.heap.size+1,118,outL_ A' k c' outZ none 0 0⟩,⟨w.heap.size,118,outL_ none 0 0 outZ none 0 0⟩] [⟨A,n1,c1,S.b⟩] wr∧OwnMr wr (fun g=>w.heap.size+2≤g) A' k c' (bgiveT tot h S.b k) ds
theorem gv_s {w W:World}{G:Nat→Prop}{p pd n1 c1 k c' h:Nat}{S:BlkS}{A A':Option Addr}{ks:List KB}{rs:List RW}(hR:RN w G p (rbkL S pd A n1 c1) (⟨w.heap.size+1,118,outL_ A' k c' outZ none 0 0⟩ :: ks) rs W)(hh:S.ha=(h:Int)):W.cell? ⟨w.heap.size+1,0,none⟩=some (.slice A' k c')∧ W.cell? ⟨p,9,none⟩=some (.int .i64 (h:Int))∧ W.cell? ⟨p,6,none⟩=some (.slice A n1 c1):=
 ⟨hR.k0.cell 0 rfl,by rw[←hh];exact hR.blk.cell 9 rfl,hR.blk.cell 6 rfl⟩
section
variable {pd:Nat}
theorem zlj (p:Nat)(S:BlkS)(G:Nat→Prop)(w:World)(hS:RBV w G p pd S)(hl:S.b.length≤1000)(ha:0≤S.ha∧S.ha≤btotal S.b)(hta:0≤S.ta∧S.ta≤1000) :
 Calls Tryz.prog 112 #[.pointer (some ⟨p,0,none⟩)] w (RBO w G p pd (bgiveS S) (outL (bgiveL S))):=by
 obtain⟨A,n1,c1,hR⟩:=hS.rn;have hz:=hR.lt;have hnr:n1=S.b.length:=hR.rn (List.mem_singleton.2 rfl);have hrc:n1≤c1:=hR.rc (List.mem_singleton.2 rfl);have HNR:=zak hnr;have hb1:n1≤1000:=by omega
 obtain⟨tot,htot⟩:∃tot,tot=btotal S.b:=⟨_,rfl⟩;have HT:=zak htot;have ht1:tot≤1000:=by rw[htot];unfold btotal;omega
 obtain⟨h,hh⟩:∃h:Nat,S.ha=(h:Int):=⟨S.ha.toNat,by omega⟩;have hh1:h≤1000:=by omega
 obtain⟨hta0,hta1⟩:=hta;obtain⟨r,hr⟩:∃r:Nat,(r:Int)=min S.ta ((tot:Int) - (h:Int)):=⟨(min S.ta ((tot:Int) - (h:Int))).toNat,by omega⟩;have hr1:r≤1000:=by omega
 have HRI:=zak hr;obtain⟨P,hP⟩:∃P,P=RBO w G p pd (bgiveS S) (outL (bgiveL S)):=⟨_,rfl⟩;have HP:Hid (P=RBO w G p pd { S with st:=5,ro:=(r:Int) } (outL (bgiveT tot h S.b r))):=zak (by
  have hrow:browN S=(r:Int):=by unfold browN;rw[hh,←htot,hr]
  rw[hP];unfold bgiveS bgiveL bgiveT;rw[hrow,←htot,hh];rfl)
 rw[←hP];have HRW:Hid (∀r ∈ ([⟨A,n1,c1,S.b⟩]:List RW),∀ad,r.A=some ad→ad.block < w.heap.size):=zak (fun r hr ad e=>((hR.rows r hr).2.2.2 ad e).2.1);have HH:=zak (hR.new2 rfl 118 118 (outL_ none 0 0 outZ none 0 0) (outL_ none 0 0 outZ none 0 0));have HA:=zak hh;clear hS hR hP hnr htot hr ha hh hl;unfold outL_ outZ at HH;go_enter Tryz.func112,Tryz.ntmps112
 go_upto_region 2 with fail
 refine zb6 (P:=fun W=>RN w G p (rbkL S pd A n1 c1) [⟨w.heap.size+1,118,outL_ none 0 0 outZ none 0 0⟩,⟨w.heap.size,118,outL_ none 0 0 outZ none 0 0⟩] [⟨A,n1,c1,S.b⟩] W) HH.out (fun W hW=>?_);clear HH;have HC:=zak hW;clear hW;go_wp2_with fail
 go_loopw [4,5,6] (fun vi _ _ wr=>Hid (GvR w G p pd S A n1 c1 r tot h vi wr)) (fun vi _ _ _=>r - (intOf vi - 1).toNat)
 case atStart=>exact zak ⟨0,none,0,[],rfl,Nat.zero_le _,HC.out,zb2.nil _ _⟩
 case round=>
  obtain⟨k,A',c',ds,rfl,hk,hCr,hOM⟩:=hrel.out;have HCr:=zak hCr;have HOM:=zak hOM;have zr:=hCr.lt;have zo:w.heap.size+1 < wr.heap.size:=hCr.k0.lt;have d9:wr.cell? ⟨p,9,none⟩=some (.int .i64 (h:Int)):=by rw[←HA.out];exact hCr.blk.cell 9 rfl
  have d10:wr.cell? ⟨p,10,none⟩=some (.int .i64 S.ta):=hCr.blk.cell 10 rfl;have d6:wr.cell? ⟨p,6,none⟩=some (.slice A n1 c1):=hCr.blk.cell 6 rfl;obtain⟨j,hj⟩:∃j:Int,j=(k:Int)+1:=⟨_,rfl⟩;have HJ:=zak hj;have hj1:1≤j∧j≤1001:=by omega
  obtain⟨s,hs⟩:∃s:Int,s=(h:Int)+j:=⟨_,rfl⟩;have hs1:1≤s∧s≤101001:=by omega
  have HS:=zak hs;have hsw:IntKind.i64.wrap ((h:Int)+j)=s:=by rw[←hs];unfold IntKind.wrap;simp[IntKind.signed,IntKind.bits];omega
  have hsj:=hs.symm;rw[←hj];clear hCr hOM hs hrel;by_cases hlt:k < r
  · have hjm:j≤S.ta:=by have:=HRI.out;omega
    have hst:s≤(tot:Int):=by have:=HRI.out;have:=HS.out;omega
    obtain⟨kk,hkk⟩:∃kk:Nat,kk=h+k:=⟨_,rfl⟩;have hsk:s - 1=(kk:Int):=by have:=HS.out;omega
    have hkb:kk≤101000:=by omega
    have hws:IntKind.i64.wrap s=s:=by unfold IntKind.wrap;simp[IntKind.signed,IntKind.bits];omega
    have hwk:IntKind.i64.wrap (kk:Int)=(kk:Int):=by unfold IntKind.wrap;simp[IntKind.signed,IntKind.bits];omega
    obtain⟨mm,hmm⟩:∃mm:Nat,mm=7 * kk:=⟨_,rfl⟩;have h7m:7 * (kk:Int)=(mm:Int):=by omega
    have hwm:IntKind.i64.wrap (mm:Int)=(mm:Int):=by unfold IntKind.wrap;simp[IntKind.signed,IntKind.bits];omega
    have h7k:mm≤n1:=by
     have h1:=HT.out;have h2:=HNR.out
     have:=HS.out
     unfold btotal at h1;omega
    have hcut:=fun W=>cut_b A n1 c1 mm ((mm:Nat):Int) .i64 rfl h7k hrc W
    have HEE:Hid ((S.b.drop mm).take 7 ++ (List.replicate 7 0).drop (n1 - mm)=bpiece S.b kk):=zak (by
     unfold bpiece;rw[List.drop_replicate,HNR.out,hmm])
    obtain⟨Am,hAm⟩:∃Am,Am=cutA A c1 mm 1:=⟨_,rfl⟩;have HAM:=zak hAm;rw[←hAm] at hcut;have HDL:Hid (n1 - mm=(S.b.drop mm).length):=zak (by rw[List.length_drop,←HNR.out]);have HKK:=zak hkk;clear hj hkk hmm hAm;go_upto_region 3 with fail
    refine wp_region_held_drew (S:=(fun w'=>(∀qA:Addr,qA.block < (wr).heap.size→w'.cell? qA=(wr).cell? qA)∧ Below (wr).heap.size (wr) w')) (by kernel_rfl) ?hS1 (fun hHeld=>?rest1)
    case hS1=>exact kSn
    case' rest1=>skip
    iterate 14 (refine tkN ?_;try simp only[PqL,Act.put])
    refine kRd 14 (fun K hK=>?_)
    go_simp
    refine (zko (p:=p) _ A n1 c1 S.b (HCr.out.drew.blk.cell 6 rfl) HNR.out (by omega)).mono ?_;rintro e w2 ⟨rfl,hw⟩;subst hw;rw[←HT.out];refine hK.out _ _ ?hS18 (fun hHeld=>?rest18)
    case hS18=>exact kSn
    case' rest18=>(clear hK K;try simp only[PqL,Act.put])
    refine tkH 15 ?_;try simp only[PqL,Act.put]
    refine tkH 16 ?_;try simp only[PqL,Act.put]
    refine wpAnyH_done (by kernel_rfl) ?_ _;have hEnd:=hHeld.2
    repeat (clear hHeld)
    go_upto_region 5 with fail
    refine zb6 (P:=fun W2=>Below wr.heap.size wr W2) (by have hb:=Below.refl wr.heap.size wr;exact kBl) (fun wx hx=>?_);have HCx:=zak (HCr.out.step hx);have HOMx:=zak (HOM.out.below hx);have hzx:=hx.size;clear hx hEnd HCr HOM d6 d9 d10;go_upto_region 6 with (at_make;refine mk_b _ rfl _ _ rfl .i64 .i64 7 7 7 7 rfl rfl rfl rfl (Nat.le_refl _) (by omega) wx.heap.size rfl ?_;intro w6 hO6 hz6 hb6;have HO6:=zak hO6;clear hO6)
    have HC6:=zak (HCx.out.step hb6);have HB6:=zak hb6;have zp6:=HC6.out.lt;have HSd:Hid (Sl w6 Am ((S.b.drop mm).map bv)):=zak (by
     rw[HAM.out];have h2:=(HC6.out.sl (List.mem_singleton.2 rfl)).cutA (k:=mm) (c:=c1) (s:=1) (by simp;have:=HNR.out;omega) (by omega);rw[Nat.mul_one,←List.map_drop] at h2;exact h2)
    have e9:w6.cell? ⟨p,9,none⟩=some (.int .i64 (h:Int)):=by rw[←HA.out];exact HC6.out.blk.cell 9 rfl
    have e6:w6.cell? ⟨p,6,none⟩=some (.slice A n1 c1):=HC6.out.blk.cell 6 rfl;clear hb6;go_upto_region 8 with (with_reducible refine cpy_b _ rfl (.tmp 35) (.tmp 41) rfl wx.heap.size _ 7 _ rfl HO6.out Am (n1 - mm) (c1 - mm) (S.b.drop mm) rfl HDL.out HSd.out (Nat.le_of_lt hz6) (bpiece S.b kk) HEE.out ?_;intro w7 hO7 hg7 hb7;have HO7:=zak hO7;have HB7:=zak hb7;clear hO7 hg7 hb7)
    have hwx:w.heap.size+2≤wx.heap.size:=by omega
    have HC7:=zak (HC6.out.up2 (HB7.out.mono hwx) HRW.out);obtain⟨dd,hdd⟩:∃dd,dd=bpiece S.b kk:=⟨_,rfl⟩;have hdl:dd.length=7:=by rw[hdd];exact zjn _ _
    obtain⟨la,hla⟩:∃la,la=decide ((h:Int)+(k:Int)+1=(tot:Int)):=⟨_,rfl⟩;have hlb:(s == (tot:Int))=la:=by
     have e1:s=(h:Int)+(k:Int)+1:=by have h1:=HS.out;have h2:=HJ.out;omega
     rw[hla,e1];by_cases hx:(h:Int)+(k:Int)+1=(tot:Int)
     · simp[hx]
     · simp[hx]
    have hz67:w6.heap.size≤w7.heap.size:=HB7.out.size;have HM7:=zak (((HOMx.out.mono (G:=fun g=>w.heap.size+2≤g∧g < wx.heap.size) (fun g h1 h2=>⟨h2,h1⟩)).keep (w':=w6) (fun g hg _=>HB6.out.block g hg.2)).keep (w':=w7) (fun g hg _=>HB7.out.block g hg.2));have HC8:Hid (∀o:Obj,OwnMr (w7.drew.alloc o) (fun g=>w.heap.size+2≤g) A' k c' (bgiveT tot h S.b k) ds):=zak (fun o=>(HM7.out.below (za7 (zbo (Below.refl _ _)) o)).mono (fun g _ hg=>hg.1));have HOd:Hid (∀o:Obj,zbs (w7.drew.alloc o) 0 (some ⟨wx.heap.size,0,none⟩) dd.length 7 dd):=zak (fun o=>by rw[hdl,hdd];exact (HO7.out.drew.alloc o).mono (Nat.zero_le _))
    have HDL2:=zak hdl;have HDD2:=zak hdd;have HLA:=zak hla;obtain⟨g0,g9,g6⟩:=gv_s HC7.out HA.out;have zp7:=HC7.out.lt;have zo7:w.heap.size+1 < w7.heap.size:=HC7.out.k0.lt;clear hdl hdd hla hcut HC6 HSd HO7 zp6 e9 e6 HB7 HB6;refine zaj (fun w'=>w'.cell? ⟨w.heap.size+1,0,none⟩=some (.slice A' k c')∧ w'.cell? ⟨p,9,none⟩=some (.int .i64 (h:Int))∧ w'.cell? ⟨p,6,none⟩=some (.slice A n1 c1)) [0,1,2,3,4,5,6,7,8,9,10,11,12,13,14,15,16] (by kernel_rfl) ?hS22 (fun hHeld=>?rest22)
    case hS22=>((try dsimp only);exact⟨g0,g9,g6⟩)
    case' rest22=>skip
    refine tkT 0 ?_;try simp only[PqL,Act.put]
    refine tkT 1 ?_;try simp only[PqL,Act.put]
    refine tkT 2 ?_;try simp only[PqL,Act.put]
    refine tkT 3 ?_;try simp only[PqL,Act.put]
    refine tkT 4 ?_;try simp only[PqL,Act.put]
    refine tkT 5 ?_;try simp only[PqL,Act.put]
    refine tkT 6 ?_;try simp only[PqL,Act.put]
    refine tkT 7 ?_;try simp only[PqL,Act.put]
    refine tkT 8 ?_;try simp only[PqL,Act.put]
    refine tkT 9 ?_;try simp only[PqL,Act.put]
    refine tkT 12 ?_;try simp only[PqL,Act.put]
    refine zag (i:=10) (o:=_) rfl (by kernel_rfl) (fun K hK=>?_)
    go_simp
    refine (zko (p:=p) _ A n1 c1 S.b (HC7.out.drew.blk.cell 6 rfl) HNR.out (by omega)).mono ?_;rintro e w8 ⟨rfl,hw⟩;subst hw;rw[←HT.out];dsimp only;refine hK.out _ _ ?hS35 (fun hHeld=>?rest35)
    case hS35=>((try dsimp only);(exact⟨g0,g9,g6⟩))
    case' rest35=>(clear hK K;try simp only[PqL,Act.put])
    refine tkT 11 ?_;try simp only[PqL,Act.put]
    refine tkT 13 ?_;try simp only[PqL,Act.put]
    refine zag (i:=14) (o:=_) rfl (by kernel_rfl) (fun K hK=>?_)
    go_simp
    refine hK.out _ _ ?hS39 (fun hHeld=>?rest39)
    case hS39=>((try dsimp only);(exact gv_s (HC7.out.drew.alloc _) HA.out))
    case' rest39=>(clear hK K;try simp only[PqL,Act.put])
    refine zag (i:=15) (o:=_) rfl (by kernel_rfl) (fun K hK=>?_);rw[if_pos (show Region.wanted _ _=true by kernel_rfl)];refine zhw (f:=msF) (k:=14) (e:=30) (dat:=Ms.data) (F:=fun g=>w.heap.size+2≤g) _ _ 115 rfl zdu zdv (by decide) 96 _ Tryz.underlying115 zlh rfl (by omega) (by omega) A' k c' (bgiveT tot h S.b k) ds rfl (HC8.out _) (⟨21,0,0,false,la,false,false,0,0,dd,j,0,0,0⟩:Ms) (some ⟨wx.heap.size,0,none⟩,7) _ rfl (by simp only[msF];rw[HDL2.out];exact (Blk.new _ _ _).sl) (HOd.out _) (by intro g hg;injection hg with hg;injection hg with hg;subst hg;exact hwx) (fun g hg=>by simp at hg;omega) (by omega) ?_
    intro A4 c4 w9 hO9 hg9 hA9;have hgo:=zbv.of_grown (F:=fun g=>w.heap.size+2≤g) hg9 (fun q hq=>(zli HM7.out hq).1);have HC9:=zak ((HC7.out.drew.alloc _).up2 (hgo.below (N:=w.heap.size+2) (by simp;omega) (fun q hq=>hq)) HRW.out);have HO9:=zak hO9;have kk9:=HC9.out.k0;unfold outL_ outZ at kk9;have zkk9:=kk9.lt;clear hO9 hg9 hA9 hgo;obtain⟨iz,iA,iB,iC,iD⟩:=za9 kk9;have jr:=kk9.frozen;refine hK.out _ _ ?hS41 (fun hHeld=>?rest41)
    case hS41=>((try dsimp only);(exact gv_s HC9.out HA.out))
    case' rest41=>(clear hK K;try simp only[PqL,Act.put])
    refine tkT 16 ?_;try simp only[PqL,Act.put]
    refine zah (i:=17) (o:=_) rfl (by kernel_rfl) (by kernel_rfl) (fun K hK=>?_)
    go_simp
    refine hK.out _ _ ?rest44
    case' rest44=>(clear hK K;try simp only[PqL,Act.put])
    refine zai (by kernel_rfl) ?_ _
    repeat (clear hHeld)
    have HPUT:Hid (RN w G p (rbkL S pd A n1 c1) [⟨w.heap.size+1,118,outL_ A4 (k+1) c4 outZ none 0 0⟩,⟨w.heap.size,118,outL_ none 0 0 outZ none 0 0⟩] [⟨A,n1,c1,S.b⟩] (w9.setCell ⟨w.heap.size+1,0,none⟩ (.slice A4 (k+1) c4))):=zak (HC9.out.put (by show ¬w.heap.size+1 < w.heap.size;omega) (by intro y hy;simp at hy;subst hy;show w.heap.size≠w.heap.size+1;omega) (fun r hr ad e=>by have:=HRW.out r hr ad e;show ad.block≠w.heap.size+1;omega) 0 _);have HOP:Hid (OwnMr (w9.setCell ⟨w.heap.size+1,0,none⟩ (.slice A4 (k+1) c4)) (fun g=>w.heap.size+2≤g) A4 (k+1) c4 (bgiveT tot h S.b (k+1)) (ds ++ [(some ⟨wx.heap.size,0,none⟩,7)])):=zak (by
     rw[zjm];have h9:=HO9.out.keep (w':=w9.setCell ⟨w.heap.size+1,0,none⟩ (.slice A4 (k+1) c4)) (fun g hg _=>Below.heap_setCell _ _ _ _ (show g≠w.heap.size+1 by have hg:w.heap.size+2≤g:=hg;omega));rw[HLA.out,HDD2.out,HKK.out,HJ.out] at h9;exact h9)
    clear g0 g9 g6;go_wp2_with fail
    go_roundw
    case rel=>exact zak ⟨k+1,A4,c4,ds ++ [(some ⟨wx.heap.size,0,none⟩,7)],by rw[HJ.out];push_cast;rfl,by omega,HPUT.out,HOP.out⟩
    case measure=>simp[intOf];have:=HJ.out;omega
  · obtain rfl:k=r:=by omega
    clear hj;by_cases hjm:j≤S.ta
    · have hst: ¬s≤(tot:Int):=by have:=HRI.out;have h1:=HS.out;have h2:=HJ.out;omega
      have hws:IntKind.i64.wrap s=s:=by unfold IntKind.wrap;simp[IntKind.signed,IntKind.bits];omega
      go_upto_region 3 with fail
      refine wp_region_held_drew (S:=(fun w'=>(∀qA:Addr,qA.block < (wr).heap.size→w'.cell? qA=(wr).cell? qA)∧ Below (wr).heap.size (wr) w')) (by kernel_rfl) ?hS46 (fun hHeld=>?rest46)
      case hS46=>exact kSn
      case' rest46=>skip
      iterate 14 (refine tkN ?_;try simp only[PqL,Act.put])
      refine kRd 14 (fun K hK=>?_)
      go_simp
      refine (zko (p:=p) _ A n1 c1 S.b (HCr.out.drew.blk.cell 6 rfl) HNR.out (by omega)).mono ?_;rintro e w2 ⟨rfl,hw⟩;subst hw;rw[←HT.out];refine hK.out _ _ ?hS63 (fun hHeld=>?rest63)
      case hS63=>exact kSn
      case' rest63=>(clear hK K;try simp only[PqL,Act.put])
      refine tkH 15 ?_;try simp only[PqL,Act.put]
      refine tkH 16 ?_;try simp only[PqL,Act.put]
      refine wpAnyH_done (by kernel_rfl) ?_ _;have hEnd:=hHeld.2
      repeat (clear hHeld)
      go_upto_region 9 with fail
      refine zb6 (P:=fun W2=>Below wr.heap.size wr W2) (by have hb:=Below.refl wr.heap.size wr;exact kBl) (fun wx hx=>?_);have HC3:=zak (HCr.out.step hx);have HO3:=zak (HOM.out.below hx);have z3:=HC3.out.lt;have kk:=HC3.out.k0;have k1:=HC3.out.k1;have bb:=HC3.out.blk;unfold outL_ outZ at kk k1;unfold rbkL at bb;have zkk:=kk.lt;have zk1:=k1.lt;have hne0:w.heap.size≠p:=by omega
      have hne1:w.heap.size+1≠p:=by omega
      have H5:Hid (RN w G p (rbkL { S with st:=5,ro:=(k:Int) } pd A n1 c1) [⟨w.heap.size,118,outL_ none 0 0 outZ none 0 0⟩] [⟨A,n1,c1,S.b⟩] ((wx.setCell ⟨p,11,none⟩ (.int .i64 (k:Nat))).setCell ⟨p,1,none⟩ (.int .i64 5))):=zak (((HC3.out.set 11 (.int .i64 (k:Nat))).set 1 (.int .i64 5)).sub (by simp));have HO5:Hid (OwnMr ((wx.setCell ⟨p,11,none⟩ (.int .i64 (k:Nat))).setCell ⟨p,1,none⟩ (.int .i64 5)) (fun g=>w.heap.size≤g∧g≠w.heap.size) A' k c' (bgiveT tot h S.b k) ds):=zak ((HO3.out.keep (fun g hg hlt=>(zbv.set (fun q=>q=p) (zbv.set (fun q=>q=p) (zbv.refl _ wx) (i:=11) rfl (.int .i64 (k:Nat))) (i:=1) rfl (.int .i64 5)).block g hlt (fun e=>by have hgW:w.heap.size+2≤g:=hg;omega))).mono (fun g _ hg=>⟨by have hg:w.heap.size+2≤g:=hg;omega,by have hg:w.heap.size+2≤g:=hg;omega⟩))
      have HF:Hid (Blk (putO ((wx.setCell ⟨p,11,none⟩ (.int .i64 (k:Nat))).setCell ⟨p,1,none⟩ (.int .i64 5)) w.heap.size A' k c' outZ none 0 0) w.heap.size 118 (outV A' k c' outZ none 0 0)∧ RBO w G p pd { S with st:=5,ro:=(k:Int) } (outL (bgiveT tot h S.b k)) (.returned (.agg (outV A' k c' outZ none 0 0))) (putO ((wx.setCell ⟨p,11,none⟩ (.int .i64 (k:Nat))).setCell ⟨p,1,none⟩ (.int .i64 5)) w.heap.size A' k c' outZ none 0 0)):=zak (zkl (S:={ S with st:=5,ro:=(k:Int) }) (O:=outL (bgiveT tot h S.b k)) (ks:=[]) H5.out (List.mem_singleton.2 rfl) (Nat.le_refl _) (fun r hr ad e=>by have:=HRW.out r hr ad e;omega) HO5.out (zbs.nil _ _) (FIn.nil _))
      clear hx HCr HOM HO3 HC3 H5 HO5 d6 d9 d10;obtain⟨aK,aL,aM,aN,aO⟩:=za9 kk;have aQ:=kk.frozen;obtain⟨am,ai,aj,an,ah⟩:=za9 k1;have aD:=k1.frozen;obtain⟨ar,au,av,aw,ax,ay,az,aA,aB,aC,af,ag⟩:=zbc bb;have aE:=bb.frozen;go_wp2_with fail
      obtain⟨F1,F2⟩:=HF.out;rw[←HP.out] at F2;unfold putO outZ at F1 F2;dsimp only at F1 F2;exact zkf (O:=outZ) rfl rfl rfl F1 F2
    · go_upto_region 3 with fail
      refine wp_region_held_drew (S:=(fun w'=>(∀qA:Addr,qA.block < (wr).heap.size→w'.cell? qA=(wr).cell? qA)∧ Below (wr).heap.size (wr) w')) (by kernel_rfl) ?hS67 (fun hHeld=>?rest67)
      case hS67=>exact kSn
      case' rest67=>skip
      iterate 7 (refine tkN ?_;try simp only[PqL,Act.put])
      iterate 9 (refine tkV ?_;try simp only[PqL,Act.put])
      refine tkN ?_;try simp only[PqL,Act.put];refine wpAnyH_done (by kernel_rfl) ?_ _;have hEnd:=hHeld.2
      repeat (clear hHeld)
      go_upto_region 9 with fail
      refine zb6 (P:=fun W2=>Below wr.heap.size wr W2) (by have hb:=Below.refl wr.heap.size wr;exact kBl) (fun wx hx=>?_);have HC3:=zak (HCr.out.step hx);have HO3:=zak (HOM.out.below hx);have z3:=HC3.out.lt;have kk:=HC3.out.k0;have k1:=HC3.out.k1;have bb:=HC3.out.blk;unfold outL_ outZ at kk k1;unfold rbkL at bb;have zkk:=kk.lt;have zk1:=k1.lt;have hne0:w.heap.size≠p:=by omega
      have hne1:w.heap.size+1≠p:=by omega
      have H5:Hid (RN w G p (rbkL { S with st:=5,ro:=(k:Int) } pd A n1 c1) [⟨w.heap.size,118,outL_ none 0 0 outZ none 0 0⟩] [⟨A,n1,c1,S.b⟩] ((wx.setCell ⟨p,11,none⟩ (.int .i64 (k:Nat))).setCell ⟨p,1,none⟩ (.int .i64 5))):=zak (((HC3.out.set 11 (.int .i64 (k:Nat))).set 1 (.int .i64 5)).sub (by simp));have HO5:Hid (OwnMr ((wx.setCell ⟨p,11,none⟩ (.int .i64 (k:Nat))).setCell ⟨p,1,none⟩ (.int .i64 5)) (fun g=>w.heap.size≤g∧g≠w.heap.size) A' k c' (bgiveT tot h S.b k) ds):=zak ((HO3.out.keep (fun g hg hlt=>(zbv.set (fun q=>q=p) (zbv.set (fun q=>q=p) (zbv.refl _ wx) (i:=11) rfl (.int .i64 (k:Nat))) (i:=1) rfl (.int .i64 5)).block g hlt (fun e=>by have hgW:w.heap.size+2≤g:=hg;omega))).mono (fun g _ hg=>⟨by have hg:w.heap.size+2≤g:=hg;omega,by have hg:w.heap.size+2≤g:=hg;omega⟩))
      have HF:Hid (Blk (putO ((wx.setCell ⟨p,11,none⟩ (.int .i64 (k:Nat))).setCell ⟨p,1,none⟩ (.int .i64 5)) w.heap.size A' k c' outZ none 0 0) w.heap.size 118 (outV A' k c' outZ none 0 0)∧ RBO w G p pd { S with st:=5,ro:=(k:Int) } (outL (bgiveT tot h S.b k)) (.returned (.agg (outV A' k c' outZ none 0 0))) (putO ((wx.setCell ⟨p,11,none⟩ (.int .i64 (k:Nat))).setCell ⟨p,1,none⟩ (.int .i64 5)) w.heap.size A' k c' outZ none 0 0)):=zak (zkl (S:={ S with st:=5,ro:=(k:Int) }) (O:=outL (bgiveT tot h S.b k)) (ks:=[]) H5.out (List.mem_singleton.2 rfl) (Nat.le_refl _) (fun r hr ad e=>by have:=HRW.out r hr ad e;omega) HO5.out (zbs.nil _ _) (FIn.nil _))
      clear hx HCr HOM HO3 HC3 H5 HO5 d6 d9 d10;obtain⟨aK,aL,aM,aN,aO⟩:=za9 kk;have aQ:=kk.frozen;obtain⟨am,ai,aj,an,ah⟩:=za9 k1;have aD:=k1.frozen;obtain⟨ar,au,av,aw,ax,ay,az,aA,aB,aC,af,ag⟩:=zbc bb;have aE:=bb.frozen;go_wp2_with fail
      obtain⟨F1,F2⟩:=HF.out;rw[←HP.out] at F2;unfold putO outZ at F1 F2;dsimp only at F1 F2;exact zkf (O:=outZ) rfl rfl rfl F1 F2
end
end
end Go.Proofs.YtkkpjbjmhaecjaaGreat
