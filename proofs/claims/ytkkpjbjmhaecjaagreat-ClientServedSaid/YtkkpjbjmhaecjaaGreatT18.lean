/- None -/
import Derived.Test.YtkkpjbjmhaecjaaGreatT17
namespace Go.Proofs.YtkkpjbjmhaecjaaGreat
set_option linter.all false
set_option maxRecDepth 100000
set_option maxHeartbeats 4000000
section
open Go.RowKit
theorem zlh (L:List Ent)(ix sub:Int):∃k:Nat,smayC L ix sub=(k:Int):=⟨(smayC L ix sub).toNat,by
 have:0≤smayC L ix sub:=by unfold smayC codeL writeE;(repeat' split)<;> omega
 omega⟩
theorem zli (E:Ent)(n:Int):∃k:Nat,fitsC E n=(k:Int):=⟨(fitsC E n).toNat,by
 have:0≤fitsC E n:=by unfold fitsC;(repeat' split)<;> omega
 omega⟩
def DwnC (W:World) (L:List Ent) (ix sub:Int) (s5 s6:Value) (wx:World):Prop:=
 ∃ge E A4 n4 c4,s5= .pointer (some ⟨ge,0,none⟩)∧ s6= .int .u32 (smayC L ix sub)∧ W.heap.size≤ge∧Blk wx ge 90 (entV E A4 n4 c4)∧ (smayC L ix sub=0→E=entK L (locK L ix sub))∧ Below W.heap.size W wx
theorem zlj {W w3:World}{L:List Ent}{ix sub:Int}{E:Ent}{A4:Option Addr}{n4 c4:Nat}(hb:Below W.heap.size W w3)(hE:smayC L ix sub=0→E=entK L (locK L ix sub)) :
 DwnC W L ix sub (.pointer (some ⟨w3.heap.size,0,none⟩)) (.int .u32 (smayC L ix sub)) (w3.alloc (.cells (entV E A4 n4 c4) 90)):=
 ⟨w3.heap.size,E,A4,n4,c4,rfl,rfl,hb.size,Blk.new _ _ _,hE,zc5 hb _⟩
theorem zlk {W w3:World}{L:List Ent}{ix sub:Int}{E:Ent}{A4:Option Addr}{n4 c4:Nat}(hb:Below W.heap.size W w3)(hZ:Blk w3 W.heap.size 90 (entV zeroE none 0 0))(hE:smayC L ix sub=0→E=entK L (locK L ix sub)) :
 DwnC W L ix sub (.pointer (some ⟨W.heap.size,0,none⟩)) (.int .u32 (smayC L ix sub)) (put11 w3 W.heap.size E A4 n4 c4):=by
 have o1:=zjj w3 W.heap.size E A4 n4 c4;exact⟨W.heap.size,E,A4,n4,c4,rfl,rfl,Nat.le_refl _,zji hZ rfl E A4 n4 c4,hE,hb.trans (o1.below hb.size (fun i h=>by omega))⟩
theorem zll {w w3:World}{G:Nat→Prop}{p pd:Nat}{S':SegS}{ix sub:Int}{b:List UInt8}{A A':Option Addr}{n c n' c':Nat}(hK:Blk w3 (w.heap.size+1) 93 (outV none 0 0 outZ none 0 0))(hO:zdv w3 (w.heap.size+2) A n c b)(hB:Blk w3 p 195 (srvV S' pd A' n' c'))(h3:S'.st=3)
 (ho:zd0 (fun q=>q=p) w w3) (hp:p < w.heap.size) :
 Blk (putO w3 (w.heap.size+1) none 0 0 ⟨[],true,ix,sub,b⟩ A n c) (w.heap.size+1) 93 (outV none 0 0 ⟨[],true,ix,sub,b⟩ A n c)∧ SOutR w G p pd S' ⟨[],true,ix,sub,b⟩ (.returned (.agg (outV none 0 0 ⟨[],true,ix,sub,b⟩ A n c))) (putO w3 (w.heap.size+1) none 0 0 ⟨[],true,ix,sub,b⟩ A n c):=by
 refine⟨zj3 hK,fun q=>w.heap.size≤q,none,0,0,A,n,c,rfl,.inl ⟨rfl,rfl,rfl,rfl⟩,(zj6 hO (by omega) _ _ _ _ _ _ _).mono (by omega),hO.own.fin.mono (fun q h=>by have:=h.1;omega),?_,zj5 ho (by omega) _ _ _ _ _ _ _⟩;exact⟨A',n',c',zj4 hB (by omega) _ _ _ _ _ _ _,fun h=>by rw[h3] at h;omega⟩
def DwnW (w wx:World) (p pd:Nat) (S':SegS) (A:Option Addr) (n1 c1:Nat) (M:Ms) (A3:Option Addr) (m3 c3 ge:Nat) (E:Ent) (A4:Option Addr) (n4 c4:Nat) (K:Ms) (W:World):Prop:=
 zd0 (fun q=>q=p) w W∧Blk W p 195 (srvV S' pd A n1 c1)∧ Blk W w.heap.size 95 (msV M A3 m3 c3)∧ Blk W (w.heap.size+1) 93 (outV none 0 0 outZ none 0 0)∧ Blk W ge 90 (entV E A4 n4 c4)∧ Blk W wx.heap.size 95 (msV K none 0 0)∧ w.heap.size+2≤W.heap.size
theorem zlm {w wx:World}{p pd:Nat}{S':SegS}{A:Option Addr}{n1 c1:Nat}{M:Ms}{A3:Option Addr}{m3 c3 ge:Nat}{E:Ent}{A4:Option Addr}{n4 c4:Nat}{K:Ms}{W0:World}{f:Nat}{args:Array Value}{Q:Ending→World→Prop}(h:DwnW w wx p pd S' A n1 c1 M A3 m3 c3 ge E A4 n4 c4 K W0)
 (k:∀W,DwnW w wx p pd S' A n1 c1 M A3 m3 c3 ge E A4 n4 c4 K W→Calls Tryz.prog f args W Q):Calls Tryz.prog f args W0.drew Q:=
 k _ ⟨h.1.drew,h.2.1,h.2.2.1,h.2.2.2.1,h.2.2.2.2.1,h.2.2.2.2.2.1,h.2.2.2.2.2.2⟩
theorem zln {w wx:World}{p pd:Nat}{S:SegS}{A:Option Addr}{n1 c1:Nat}{M:Ms}{A3:Option Addr}{m3 c3 ge:Nat}{E:Ent}{A4:Option Addr}{n4 c4:Nat}(ix sub:Int)(K:Ms)(hbw:Below w.heap.size w wx)(hB:Blk wx p 195 (srvV S pd A n1 c1))(hM:Blk wx w.heap.size 95 (msV M A3 m3 c3))
 (hO:Blk wx (w.heap.size+1) 93 (outV none 0 0 outZ none 0 0)) (hE:Blk wx ge 90 (entV E A4 n4 c4)) (hp:p < w.heap.size) (hge:ge≠p) :
 DwnW w wx p pd { S with ix:=ix,sub:=sub } A n1 c1 M A3 m3 c3 ge E A4 n4 c4 K (((wx.setCell ⟨p,2,none⟩ (.int .i64 ix)).setCell ⟨p,3,none⟩ (.int .i64 sub)).alloc (.cells (msV K none 0 0) 95)):=by
 have hz:((wx.setCell ⟨p,2,none⟩ (.int .i64 ix)).setCell ⟨p,3,none⟩ (.int .i64 sub)).heap.size=wx.heap.size:=by simp[World.setCell]
 have hn:=Blk.new ((wx.setCell ⟨p,2,none⟩ (.int .i64 ix)).setCell ⟨p,3,none⟩ (.int .i64 sub)) 95 (msV K none 0 0);rw[hz] at hn;have h2:=hO.lt
 refine⟨(((zd0.of_below (F:=fun q=>q=p) hbw).set _ rfl _).set _ rfl _).new _,((hB.set_ 2 (.int .i64 ix)).set_ 3 (.int .i64 sub)).alloc _,((hM.far (p:=⟨p,2,none⟩) (show w.heap.size≠p by omega) _).far (p:=⟨p,3,none⟩) (show w.heap.size≠p by omega) _).alloc _,
  ((hO.far (p:=⟨p,2,none⟩) (show w.heap.size+1≠p by omega) _).far (p:=⟨p,3,none⟩) (show w.heap.size+1≠p by omega) _).alloc _,((hE.far (p:=⟨p,2,none⟩) hge _).far (p:=⟨p,3,none⟩) hge _).alloc _,hn,?_⟩
 have:(((wx.setCell ⟨p,2,none⟩ (.int .i64 ix)).setCell ⟨p,3,none⟩ (.int .i64 sub)).alloc (.cells (msV K none 0 0) 95)).heap.size=wx.heap.size+1:=by rw[←hz];simp
 omega
section
variable {F:Nat→Prop} {pd gl n cl cv:Nat} {Av:Option Addr} {L:List Ent} {V:List (List UInt8)} {ds es:List (Option Addr×Nat)}
theorem zlo (p:Nat)(S:SegS)(G:Nat→Prop)(M:Ms)(A3:Option Addr)(m3 c3:Nat)(w:World)(hD:DB 100 w F pd (some ⟨gl,0,none⟩) n cl Av cv L V ds es)(hs:SortedE L)(hn:n≤1000)
 (hp: ¬F p) (hS:SV_ w G p pd S) (h0:S.st=0) (hm:m3=M.data.length) (hm1:m3≤35184372088832) (hMd:∀W,zd0 (fun q=>q=p) w W→Sl W A3 (M.data.map bv)) (hsz:M.size≤4294967295) :
 Calls Tryz.prog 212 #[.pointer (some ⟨p,0,none⟩),.agg (msV M A3 m3 c3)] w (SOutR w G p pd (downS L S M) (downO L M)):=by
 obtain⟨A,n1,c1,hB,hby⟩:=id hS;obtain⟨P,hP⟩:∃P,P=SOutR w G p pd (downS L S M) (downO L M):=⟨_,rfl⟩;rw[←hP];have HP:=zak hP;have hz:=hB.lt;have HS0:Hid (SV_ w G p pd S):=zak hS;have HS:=zak hs;have H1:=zak hn;have HM:=zak hm;have HMD:=zak hMd;have hne1:p≠w.heap.size+1:=by omega
 have HD:=zak hD;have HH:Hid (ArgW w p pd S A n1 c1 M A3 m3 c3 _):=zak (zk0 M A3 m3 c3 hB);clear hP hS hB hby hm hMd hD hs hn;unfold msV outV outZ at HH;unfold msV;go_enter Tryz.func212,Tryz.ntmps212
 go_wp2_with fail
 refine zed (P:=ArgW w p pd S A n1 c1 M A3 m3 c3) HH.out (fun W hW=>?_);clear HH;obtain⟨hbw,hBW,hK1,hK2,hWz⟩:=hW;have HBW:=zak hBW;have HK1:=zak hK1;have HK2:=zak hK2;have zW:=hBW.lt;have zK:=hK2.lt;have zK1:=hK1.lt;have b0:W.cell? ⟨p,0,none⟩=some (.pointer (some ⟨pd,0,none⟩)):=hBW.cell 0 rfl;have b1:W.cell? ⟨w.heap.size,1,none⟩=some (.int .i64 M.ix):=hK1.cell 1 rfl;have b2:W.cell? ⟨w.heap.size,2,none⟩=some (.int .i64 M.sub):=hK1.cell 2 rfl;have HWZ:=zak hWz;have HDW:=zak (HD.out.below hbw);clear hBW hK1 hK2 hWz;go_cut [5,6] (fun s5 s6 wx=>DwnC W L M.ix M.sub s5 s6 wx)
 case first=>
  refine wp_region_held_drew (S:=(fun w'=>(∀qA:Addr,qA.block < (W).heap.size→w'.cell? qA=(W).cell? qA)∧ Below (W).heap.size (W) w')) (by kernel_rfl) ?hS1 (fun hHeld=>?rest1)
  case hS1=>exact kSn
  case' rest1=>skip
  iterate 8 (refine tkN ?_;try simp only[PqL,Act.put])
  refine wpAnyH_ready (rs:=[8,12]) (by kernel_rfl) (by simp) (AllReadyH.cons (o:=_) rfl (fun K hK=>?_) (AllReadyH.cons (o:=_) rfl (fun K hK=>?_) .nil))
  · go_simp
    refine (zj0 M.ix M.sub _ (HDW.out.below (Below.drew (Below.refl _ _))) HS.out H1.out).mono ?_;rintro e w3 ⟨E,A4,n4,c4,rfl,hE,hb3⟩;unfold entV;dsimp only;replace hb3:=zke hb3;have HE:=zak hE;clear hE;refine hK.out _ _ ?hS11 (fun hHeld=>?rest11)
    case hS11=>exact kSn
    case' rest11=>(clear hK K;try simp only[PqL,Act.put])
    refine tkH 9 ?_;try simp only[PqL,Act.put]
    refine tkH 10 ?_;try simp only[PqL,Act.put]
    refine tkH 11 ?_;try simp only[PqL,Act.put]
    refine kRd 12 (fun K hK=>?_)
    go_simp
    refine hK.out _ _ ?hS17 (fun hHeld=>?rest17)
    case hS17=>exact kSn
    case' rest17=>(clear hK K;try simp only[PqL,Act.put])
    refine kRd 13 (fun K hK=>?_)
    go_simp
    refine hK.out _ _ ?hS20 (fun hHeld=>?rest20)
    case hS20=>exact kSn
    case' rest20=>(clear hK K;try simp only[PqL,Act.put])
    refine tkH 14 ?_;try simp only[PqL,Act.put]
    refine wpAnyH_done (by kernel_rfl) ?_ _;have hEnd:=hHeld.2
    repeat (clear hHeld)
    go_wp2_with fail
    go_meet
    exact zlj hb3 HE.out
  · go_simp
    refine hK.out _ _ ?hS23 (fun hHeld=>?rest23)
    case hS23=>exact kSn
    case' rest23=>(clear hK K;try simp only[PqL,Act.put])
    refine kRd 8 (fun K hK=>?_)
    go_simp
    refine (zj0 M.ix M.sub _ (HDW.out.below kBl) HS.out H1.out).mono ?_;rintro e w3 ⟨E,A4,n4,c4,rfl,hE,hb3⟩;unfold entV;dsimp only;have hb5:Below W.heap.size W w3:=zk9 (z:= .cells (entV zeroE none 0 0) 90) (by simpa [entV,zeroE] using hb3);have hZ3:Blk w3 W.heap.size 90 (entV zeroE none 0 0):=zla (by simpa [entV,zeroE] using hb3);have HZ3:=zak hZ3;have HE:=zak hE;unfold entV zeroE at hZ3;obtain⟨fG,fH,fI,fJ,fK,fL,fM,fN,fP,fQ,eY⟩:=zdc hZ3;have iL:=hZ3.frozen;clear hE hb3;refine hK.out _ _ ?hS26 (fun hHeld=>?rest26)
    case hS26=>exact kSn
    case' rest26=>(clear hK K;try simp only[PqL,Act.put])
    refine tkH 9 ?_;try simp only[PqL,Act.put]
    refine tkH 10 ?_;try simp only[PqL,Act.put]
    refine tkH 11 ?_;try simp only[PqL,Act.put]
    refine kRd 13 (fun K hK=>?_)
    go_simp
    refine hK.out _ _ ?hS32 (fun hHeld=>?rest32)
    case hS32=>exact kSn
    case' rest32=>(clear hK K;try simp only[PqL,Act.put])
    refine tkH 14 ?_;try simp only[PqL,Act.put]
    refine wpAnyH_done (by kernel_rfl) ?_ _;have hEnd:=hHeld.2
    repeat (clear hHeld)
    go_wp2_with fail
    go_meet
    have F:=zlk (L:=L) (ix:=M.ix) (sub:=M.sub) (A4:=A4) (n4:=n4) (c4:=c4) hb5 HZ3.out HE.out;unfold put11 at F;exact F
 case rest=>
  obtain⟨ge,E,A4,n4,c4,rfl,rfl,hge,hEb,hE,hbx⟩:=hcut;have HBX:=zak (HBW.out.below hbx zW);have HK1x:=zak (HK1.out.below hbx zK1);have HK2y:=zak (HK2.out.below hbx zK);have HEb:=zak hEb;have hbwy:=zc4 hbx hbw;have hne0:w.heap.size≠p:=by omega
  have zk1x:=HK1x.out.lt;have zk2x:=HK2y.out.lt;have k1:=HK1x.out;have k2:=HK2y.out;have bb:=HBX.out;have zp:=bb.lt;have zE:=hEb.lt;unfold msV at k1;unfold outV outZ at k2;unfold srvV at bb;unfold entV at hEb;obtain⟨ai,af,ag,am,ah,aj,an,ao,ap,aq,aa,ab,ac,ae⟩:=zde k1;have aM:=k1.frozen;obtain⟨aB,aC,aD,aE,aF⟩:=zc9 k2;have aO:=k2.frozen;obtain⟨ak,al,av,aw,ax,ay,az,aA⟩:=zdb bb;have aN:=bb.frozen;obtain⟨bW,bX,bY,bZ,b9,cf,cg,ch,cn,co,bE⟩:=zdc hEb;have cM:=hEb.frozen;obtain⟨k0,hk0⟩:=zlh L M.ix M.sub;rw[hk0];by_cases hk:k0=0
  · have hsm:smayC L M.ix M.sub=0:=by rw[hk0,hk];rfl
    have HEK:Hid (E=entK L (locK L M.ix M.sub)):=zak (hE hsm);have HSM:=zak hsm;subst hk;clear hE hk0 hsm;by_cases hm0:m3=0
    · have HMN:Hid (M.data= []):=zak (List.eq_nil_of_length_eq_zero (by rw[←HM.out];exact hm0));cases hsz':M.sz
      · have HDC:Hid (dcode L M=0):=zak (by unfold dcode;rw[if_neg (by rw[hsz'];simp),HSM.out]);have HSZ:=zak hsz';subst hm0;have HW7:=zak (zln (S:=S) (A:=A) (n1:=n1) (c1:=c1) (pd:=pd) M.ix M.sub (okM 12 M.ix M.sub false) hbwy HBX.out HK1x.out HK2y.out HEb.out hz (show ge≠p by omega));have g1:(wc.alloc (.cells (msV (okM 12 M.ix M.sub false) none 0 0) 95)).cell? ⟨w.heap.size,1,none⟩=some (.int .i64 M.ix):=(HK1x.out.alloc _).cell 1 rfl;have g2:(wc.alloc (.cells (msV (okM 12 M.ix M.sub false) none 0 0) 95)).cell? ⟨w.heap.size,2,none⟩=some (.int .i64 M.sub):=(HK1x.out.alloc _).cell 2 rfl;have g3:((wc.setCell ⟨p,2,none⟩ (.int .i64 M.ix)).alloc (.cells (msV (okM 12 M.ix M.sub false) none 0 0) 95)).cell? ⟨w.heap.size,1,none⟩=some (.int .i64 M.ix):=((HK1x.out.far (p:=⟨p,2,none⟩) (show w.heap.size≠p by omega) _).alloc _).cell 1 rfl
        have g4:((wc.setCell ⟨p,2,none⟩ (.int .i64 M.ix)).alloc (.cells (msV (okM 12 M.ix M.sub false) none 0 0) 95)).cell? ⟨w.heap.size,2,none⟩=some (.int .i64 M.sub):=((HK1x.out.far (p:=⟨p,2,none⟩) (show w.heap.size≠p by omega) _).alloc _).cell 2 rfl;unfold msV okM at g1 g2 g3 g4;go_wp2_with fail
        refine zaj (fun w'=>w'.cell? ⟨w.heap.size,1,none⟩=some (.int .i64 M.ix)∧ w'.cell? ⟨w.heap.size,2,none⟩=some (.int .i64 M.sub)) [0,1,2,3,4,5,6,7,9,10] (by kernel_rfl) ?hS35 (fun hHeld=>?rest35)
        case hS35=>((try dsimp only);exact⟨g1,g2⟩)
        case' rest35=>skip
        refine tkT 0 ?_;try simp only[PqL,Act.put]
        refine tkT 1 ?_;try simp only[PqL,Act.put]
        refine tkT 2 ?_;try simp only[PqL,Act.put]
        refine tkT 3 ?_;try simp only[PqL,Act.put]
        refine tkT 4 ?_;try simp only[PqL,Act.put]
        refine tkT 5 ?_;try simp only[PqL,Act.put]
        refine tkT 6 ?_;try simp only[PqL,Act.put]
        refine tkT 7 ?_;try simp only[PqL,Act.put]
        refine zag (i:=8) (o:=_) rfl (by kernel_rfl) (fun K hK=>?_)
        go_simp
        refine hK.out _ _ ?hS45 (fun hHeld=>?rest45)
        case hS45=>((try dsimp only);(exact⟨g3,g4⟩))
        case' rest45=>(clear hK K;try simp only[PqL,Act.put])
        refine tkT 9 ?_;try simp only[PqL,Act.put]
        refine tkT 10 ?_;try simp only[PqL,Act.put]
        refine zah (i:=11) (o:=_) rfl (by kernel_rfl) (by kernel_rfl) (fun K hK=>?_)
        go_simp
        refine hK.out _ _ ?rest49
        case' rest49=>(clear hK K;try simp only[PqL,Act.put])
        refine zai (by kernel_rfl) ?_ _
        repeat (clear hHeld)
        clear g1 g2 g3 g4;go_wp2_with fail
        refine zlm HW7.out (fun W7 hW7=>?_);clear HW7;obtain⟨hO7,hB7,hM7,hK7,hE7,hG7,hz7⟩:=hW7;refine (zjy E A4 n4 c4 _).mono ?_;rintro e w8 ⟨rfl,hb8⟩;obtain⟨me,hme⟩:∃me,me=mostE E:=⟨_,rfl⟩;rw[←hme];have HND:Hid (downS L S M= { S with st:=1,ix:=M.ix,sub:=M.sub,mo:=me,sz:= -1,b:=[],tg:=false }):=zak (by
         unfold downS;rw[if_neg (by rw[HDC.out];simp),if_neg (by rw[HMN.out];simp),←HEK.out,←hme,HSZ.out]
         rfl)
        have HR:Hid (P=SOutR w G p pd (downS L S M) (outM (okM 12 M.ix M.sub false))):=zak (by
         rw[HP.out]
         congr 1
         unfold downO;rw[if_neg (by rw[HDC.out];simp),if_neg (by rw[HMN.out];simp)])
        have HB8:=zak (hB7.below hb8 hB7.lt);have HK8:=zak (hK7.below hb8 hK7.lt);have HO8:=zak (hO7.step hb8);have s1:Blk (w8.setCell ⟨p,1,none⟩ (.int .i64 1)) p 195 (srvV { S with st:=1,ix:=M.ix,sub:=M.sub } pd A n1 c1):=HB8.out.set_ 1 (.int .i64 1);have s2:=zea [.int .i64 me,.int .i64 (-1),.slice none 0 0,.bool false] 4 (l:=(srvV { S with st:=1,ix:=M.ix,sub:=M.sub } pd A n1 c1).toList) s1 (by simp[srvV]);have s3:Blk (World.setCells _ p 4 _) p 195 (srvV { S with st:=1,ix:=M.ix,sub:=M.sub,mo:=me,sz:= -1,b:=[],tg:=false } pd none 0 0):=s2;simp only[World.setCells,Nat.reduceAdd] at s3;have HSX:=zak s3
        have bb8:=HB8.out;have kk8:=hM7.below hb8 hM7.lt;have gg8:=hG7.below hb8 hG7.lt;have zk8:=kk8.lt;have zp8:=bb8.lt;have hgp8:wc.heap.size≠p:=by omega
        unfold srvV at bb8;unfold msV at kk8;unfold msV okM at gg8;clear ai af ag am ah aj an ao ap aq aa ab ac ae aM;clear aB aC aD aE aF aO;clear ak al av aw ax ay az aA aN;clear bW bX bY bZ b9 cf cg ch cn co bE cM;obtain⟨gr,gt,gu,gw,gx,gy,gz,gA⟩:=zdb bb8;have iO:=bb8.frozen;obtain⟨gB,gC,gD,gE,gF,gG,gH,gI,gJ,gK,ff,fg,fh,fi⟩:=zde kk8;have iP:=kk8.frozen;obtain⟨gL,gM,gN,gO,gP,gQ,gR,gS,gT,gU,fj,fk,fl,fm⟩:=zde gg8;have iQ:=gg8.frozen;clear hme s1 s2 s3 k1 k2 bb hEb hO7 hB7 hM7 hK7 hE7 hG7;have hszz:M.sz=false:=HSZ.out;go_wp2_with fail
        refine zld (W1:=w) (S':=downS L S M) (A':=none) (n':=0) (c':=0) (A4:=none) (N:=0) (c4:=0) (b:=[]) (by rw[HND.out];exact⟨((((((HO8.out.set _ rfl _).set _ rfl _).set _ rfl _).set _ rfl _).set _ rfl _)),HSX.out,(((((HK8.out.far (p:=⟨p,1,none⟩) (show w.heap.size+1≠p by omega) _).far (p:=⟨p,4,none⟩) (show w.heap.size+1≠p by omega) _).far (p:=⟨p,5,none⟩) (show w.heap.size+1≠p by omega) _).far (p:=⟨p,6,none⟩) (show w.heap.size+1≠p by omega) _).far (p:=⟨p,7,none⟩) (show w.heap.size+1≠p by omega) _),zdv.nil _ _,by have:=HO8.out.size;have:=HK8.out.lt;simp[World.setCell];omega⟩) (fun W5 hW5=>?_);obtain⟨hO5,hB5,hK5,_,hz5⟩:=hW5
        refine (zka (okM 12 M.ix M.sub false) none 0 0 _).mono ?_;rintro e w3 ⟨g,hg,rfl,hBg,hb3⟩;unfold outV outZ;dsimp only;have HK23:=zak (hK5.below hb3 hK5.lt);have HBG:=zak hBg;have HO3:=zak (hO5.step hb3);have HS3:Hid (SV_ w3 (fun q=>((G q∨w.heap.size≤q)∧ ¬False)∧ q≠w.heap.size+1) p pd (downS L S M)):=zak ⟨none,0,0,hB5.below hb3 hB5.lt,fun _=>⟨by rw[HND.out];rfl,Nat.le_refl _,by rw[HND.out];intro j u hu;simp at hu,fun _=>rfl,fun ad h=>by cases h⟩⟩;have k2:=HK23.out;unfold outV outZ at k2;obtain⟨aB,aC,aD,aE,aF⟩:=zc9 k2;have aO:=k2.frozen;clear hBg hB5 hO5;clear gr gt gu gw gx gy gz gA iO;clear gB gC gD gE gF gG gH gI gJ gK ff fg fh fi iP
        clear gL gM gN gO gP gQ gR gS gT gU fj fk fl fm iQ;go_wp2_with fail
        obtain⟨F1,F2⟩:=zkv (fun _=>False) HK23.out (by omega) HBG.out (zdv.nil _ _) (FIn.nil _) HS3.out HO3.out hz;rw[←HR.out] at F2;clear HR;unfold putO outZ at F1 F2;dsimp only at F1 F2;refine zj2 (O:=⟨[],false,0,0,[]⟩) rfl rfl rfl F1 ?_;exact F2
      · have HF:=zak (fun W=>zjz E M.size A4 n4 c4 W);obtain⟨kf,hkf⟩:=zli E M.size;rw[hkf] at HF;have HDC:Hid (dcode L M=kf):=zak (by unfold dcode;rw[if_pos ⟨HSM.out,hsz',HMN.out⟩,←HEK.out,hkf]);unfold entV at HF;clear hkf;have HSZ:=zak hsz';subst hm0;go_wp2_with fail
        refine (HF.out _).mono ?_;rintro e w4 ⟨rfl,hb4⟩;clear ai af ag am ah aj an ao ap aq aa ab ac ae aM;clear aB aC aD aE aF aO;clear ak al av aw ax ay az aA aN;clear bW bX bY bZ b9 cf cg ch cn co bE cM;replace HBX:=zak (HBX.out.below hb4 HBX.out.lt);replace HK1x:=zak (HK1x.out.below hb4 HK1x.out.lt);replace HK2y:=zak (HK2y.out.below hb4 HK2y.out.lt);replace HEb:=zak (HEb.out.below hb4 HEb.out.lt);have hbwy:=zc4 hb4 hbwy;clear k1 k2 bb hEb;have k1:=HK1x.out;have k2:=HK2y.out;have bb:=HBX.out;have hEb:=HEb.out;have zp4:=bb.lt;have zk14:=HK1x.out.lt;have zk24:=HK2y.out.lt;have zE4:=hEb.lt;unfold msV at k1
        unfold outV outZ at k2;unfold srvV at bb;unfold entV at hEb;obtain⟨ai,af,ag,am,ah,aj,an,ao,ap,aq,aa,ab,ac,ae⟩:=zde k1;have aM:=k1.frozen;obtain⟨aB,aC,aD,aE,aF⟩:=zc9 k2;have aO:=k2.frozen;obtain⟨ak,al,av,aw,ax,ay,az,aA⟩:=zdb bb;have aN:=bb.frozen;obtain⟨bW,bX,bY,bZ,b9,cf,cg,ch,cn,co,bE⟩:=zdc hEb;have cM:=hEb.frozen;by_cases hkf:kf=0
        · subst hkf;have HW7:=zak (zln (S:=S) (A:=A) (n1:=n1) (c1:=c1) (pd:=pd) M.ix M.sub (okM 12 M.ix M.sub false) hbwy HBX.out HK1x.out HK2y.out HEb.out hz (show ge≠p by omega));have g1:(w4.alloc (.cells (msV (okM 12 M.ix M.sub false) none 0 0) 95)).cell? ⟨w.heap.size,1,none⟩=some (.int .i64 M.ix):=(HK1x.out.alloc _).cell 1 rfl;have g2:(w4.alloc (.cells (msV (okM 12 M.ix M.sub false) none 0 0) 95)).cell? ⟨w.heap.size,2,none⟩=some (.int .i64 M.sub):=(HK1x.out.alloc _).cell 2 rfl;have g3:((w4.setCell ⟨p,2,none⟩ (.int .i64 M.ix)).alloc (.cells (msV (okM 12 M.ix M.sub false) none 0 0) 95)).cell? ⟨w.heap.size,1,none⟩=some (.int .i64 M.ix):=((HK1x.out.far (p:=⟨p,2,none⟩) (show w.heap.size≠p by omega) _).alloc _).cell 1 rfl
          have g4:((w4.setCell ⟨p,2,none⟩ (.int .i64 M.ix)).alloc (.cells (msV (okM 12 M.ix M.sub false) none 0 0) 95)).cell? ⟨w.heap.size,2,none⟩=some (.int .i64 M.sub):=((HK1x.out.far (p:=⟨p,2,none⟩) (show w.heap.size≠p by omega) _).alloc _).cell 2 rfl;unfold msV okM at g1 g2 g3 g4;go_wp2_with fail
          refine zaj (fun w'=>w'.cell? ⟨w.heap.size,1,none⟩=some (.int .i64 M.ix)∧ w'.cell? ⟨w.heap.size,2,none⟩=some (.int .i64 M.sub)) [0,1,2,3,4,5,6,7,9,10] (by kernel_rfl) ?hS51 (fun hHeld=>?rest51)
          case hS51=>((try dsimp only);exact⟨g1,g2⟩)
          case' rest51=>skip
          refine tkT 0 ?_;try simp only[PqL,Act.put]
          refine tkT 1 ?_;try simp only[PqL,Act.put]
          refine tkT 2 ?_;try simp only[PqL,Act.put]
          refine tkT 3 ?_;try simp only[PqL,Act.put]
          refine tkT 4 ?_;try simp only[PqL,Act.put]
          refine tkT 5 ?_;try simp only[PqL,Act.put]
          refine tkT 6 ?_;try simp only[PqL,Act.put]
          refine tkT 7 ?_;try simp only[PqL,Act.put]
          refine zag (i:=8) (o:=_) rfl (by kernel_rfl) (fun K hK=>?_)
          go_simp
          refine hK.out _ _ ?hS61 (fun hHeld=>?rest61)
          case hS61=>((try dsimp only);(exact⟨g3,g4⟩))
          case' rest61=>(clear hK K;try simp only[PqL,Act.put])
          refine tkT 9 ?_;try simp only[PqL,Act.put]
          refine tkT 10 ?_;try simp only[PqL,Act.put]
          refine zah (i:=11) (o:=_) rfl (by kernel_rfl) (by kernel_rfl) (fun K hK=>?_)
          go_simp
          refine hK.out _ _ ?rest65
          case' rest65=>(clear hK K;try simp only[PqL,Act.put])
          refine zai (by kernel_rfl) ?_ _
          repeat (clear hHeld)
          clear g1 g2 g3 g4;go_wp2_with fail
          refine zlm HW7.out (fun W7 hW7=>?_);clear HW7;obtain⟨hO7,hB7,hM7,hK7,hE7,hG7,hz7⟩:=hW7;refine (zjy E A4 n4 c4 _).mono ?_;rintro e w8 ⟨rfl,hb8⟩;obtain⟨me,hme⟩:∃me,me=mostE E:=⟨_,rfl⟩;rw[←hme];have HND:Hid (downS L S M= { S with st:=1,ix:=M.ix,sub:=M.sub,mo:=me,sz:=M.size,b:=[],tg:=false }):=zak (by
           unfold downS;rw[if_neg (by rw[HDC.out];simp),if_neg (by rw[HMN.out];simp),←HEK.out,←hme,HSZ.out]
           rfl)
          have HR:Hid (P=SOutR w G p pd (downS L S M) (outM (okM 12 M.ix M.sub false))):=zak (by
           rw[HP.out]
           congr 1
           unfold downO;rw[if_neg (by rw[HDC.out];simp),if_neg (by rw[HMN.out];simp)])
          have HB8:=zak (hB7.below hb8 hB7.lt);have HK8:=zak (hK7.below hb8 hK7.lt);have HO8:=zak (hO7.step hb8);have s1:Blk (w8.setCell ⟨p,1,none⟩ (.int .i64 1)) p 195 (srvV { S with st:=1,ix:=M.ix,sub:=M.sub } pd A n1 c1):=HB8.out.set_ 1 (.int .i64 1);have s2:=zea [.int .i64 me,.int .i64 (-1),.slice none 0 0,.bool false] 4 (l:=(srvV { S with st:=1,ix:=M.ix,sub:=M.sub } pd A n1 c1).toList) s1 (by simp[srvV]);have s3:Blk (World.setCells _ p 4 _) p 195 (srvV { S with st:=1,ix:=M.ix,sub:=M.sub,mo:=me,sz:= -1,b:=[],tg:=false } pd none 0 0):=s2;simp only[World.setCells,Nat.reduceAdd] at s3;have s4:Blk _ p 195 (srvV { S with st:=1,ix:=M.ix,sub:=M.sub,mo:=me,sz:=M.size,b:=[],tg:=false } pd none 0 0):=s3.set_ 5 (.int .i64 (M.size:Nat))
          have HSX:=zak s4;have bb8:=HB8.out;have kk8:=hM7.below hb8 hM7.lt;have gg8:=hG7.below hb8 hG7.lt;have zk8:=kk8.lt;have zp8:=bb8.lt;have hgp8:w4.heap.size≠p:=by omega
          unfold srvV at bb8;unfold msV at kk8;unfold msV okM at gg8;clear ai af ag am ah aj an ao ap aq aa ab ac ae aM;clear aB aC aD aE aF aO;clear ak al av aw ax ay az aA aN;clear bW bX bY bZ b9 cf cg ch cn co bE cM;obtain⟨gr,gt,gu,gw,gx,gy,gz,gA⟩:=zdb bb8;have iO:=bb8.frozen;obtain⟨gB,gC,gD,gE,gF,gG,gH,gI,gJ,gK,ff,fg,fh,fi⟩:=zde kk8;have iP:=kk8.frozen;obtain⟨gL,gM,gN,gO,gP,gQ,gR,gS,gT,gU,fj,fk,fl,fm⟩:=zde gg8;have iQ:=gg8.frozen;clear hme s1 s2 s3 s4 k1 k2 bb hEb hO7 hB7 hM7 hK7 hE7 hG7;have hszz:M.sz=true:=HSZ.out;go_wp2_with fail
          refine zld (W1:=w) (S':=downS L S M) (A':=none) (n':=0) (c':=0) (A4:=none) (N:=0) (c4:=0) (b:=[]) (by rw[HND.out];exact⟨((((((HO8.out.set _ rfl _).set _ rfl _).set _ rfl _).set _ rfl _).set _ rfl _).set _ rfl _),HSX.out,((((((HK8.out.far (p:=⟨p,1,none⟩) (show w.heap.size+1≠p by omega) _).far (p:=⟨p,4,none⟩) (show w.heap.size+1≠p by omega) _).far (p:=⟨p,5,none⟩) (show w.heap.size+1≠p by omega) _).far (p:=⟨p,6,none⟩) (show w.heap.size+1≠p by omega) _).far (p:=⟨p,7,none⟩) (show w.heap.size+1≠p by omega) _).far (p:=⟨p,5,none⟩) (show w.heap.size+1≠p by omega) _),zdv.nil _ _,by have:=HO8.out.size;have:=HK8.out.lt;simp[World.setCell];omega⟩) (fun W5 hW5=>?_)
          obtain⟨hO5,hB5,hK5,_,hz5⟩:=hW5;refine (zka (okM 12 M.ix M.sub false) none 0 0 _).mono ?_;rintro e w3 ⟨g,hg,rfl,hBg,hb3⟩;unfold outV outZ;dsimp only;have HK23:=zak (hK5.below hb3 hK5.lt);have HBG:=zak hBg;have HO3:=zak (hO5.step hb3);have HS3:Hid (SV_ w3 (fun q=>((G q∨w.heap.size≤q)∧ ¬False)∧ q≠w.heap.size+1) p pd (downS L S M)):=zak ⟨none,0,0,hB5.below hb3 hB5.lt,fun _=>⟨by rw[HND.out];rfl,Nat.le_refl _,by rw[HND.out];intro j u hu;simp at hu,fun _=>rfl,fun ad h=>by cases h⟩⟩;have k2:=HK23.out;unfold outV outZ at k2;obtain⟨aB,aC,aD,aE,aF⟩:=zc9 k2;have aO:=k2.frozen;clear hBg hB5 hO5;clear gr gt gu gw gx gy gz gA iO
          clear gB gC gD gE gF gG gH gI gJ gK ff fg fh fi iP;clear gL gM gN gO gP gQ gR gS gT gU fj fk fl fm iQ;go_wp2_with fail
          obtain⟨F1,F2⟩:=zkv (fun _=>False) HK23.out (by omega) HBG.out (zdv.nil _ _) (FIn.nil _) HS3.out HO3.out hz;rw[←HR.out] at F2;clear HR;unfold putO outZ at F1 F2;dsimp only at F1 F2;refine zj2 (O:=⟨[],false,0,0,[]⟩) rfl rfl rfl F1 ?_;exact F2
        · skip
          have HR:Hid (P=SOutR w G p pd S (outM (abM M.ix M.sub kf))):=zak (by
           rw[HP.out]
           congr 1
           · unfold downS;rw[if_pos (by rw[HDC.out];omega)]
           · unfold downO;rw[if_pos (by rw[HDC.out];omega),HDC.out];rfl)
          go_wp2_with fail
          refine (zj9 M.ix M.sub kf _).mono ?_;rintro e w5 ⟨rfl,hBg,hb5,hz5⟩;have HK25:=zak (HK2y.out.below hb5 HK2y.out.lt);have HBG:=zak hBg;have hbw5:=zc4 hb5 hbwy;have HS5:=zak (HS0.out.keep (w':=w5) (H:=fun q=>((G q∨w.heap.size≤q)∧ ¬False)∧ q≠w.heap.size+1) (fun q _ hq=>hbw5.block q hq) hbw5.size (fun q h1 h2=>⟨⟨.inl h2,id⟩,by omega⟩));have HO5:=zak (zd0.of_below (F:=fun q=>q=p) hbw5);clear aB aC aD aE aF aO;clear k2 hBg;have k2:=HK25.out;unfold outV outZ at k2;obtain⟨aB,aC,aD,aE,aF⟩:=zc9 k2;have aO:=k2.frozen;go_wp2_with fail
          have hgz:w.heap.size+2≤w4.heap.size:=HK2y.out.lt;obtain⟨F1,F2⟩:=zkv (fun _=>False) HK25.out hgz HBG.out (zdv.nil _ _) (FIn.nil _) HS5.out HO5.out hz;rw[←HR.out] at F2;clear HR;unfold putO outZ at F1 F2;dsimp only at F1 F2;refine zj2 (O:=⟨[],false,0,0,[]⟩) rfl rfl rfl F1 ?_;exact F2
    · have HDC:Hid (dcode L M=0):=zak (by unfold dcode;rw[if_neg (fun h=>hm0 (by rw[HM.out,h.2.2];rfl)),HSM.out]);cases hsz':M.sz
      · skip
        have HW7:=zak (zln (S:=S) (A:=A) (n1:=n1) (c1:=c1) (pd:=pd) M.ix M.sub (okM 12 M.ix M.sub false) hbwy HBX.out HK1x.out HK2y.out HEb.out hz (show ge≠p by omega));have g1:(wc.alloc (.cells (msV (okM 12 M.ix M.sub false) none 0 0) 95)).cell? ⟨w.heap.size,1,none⟩=some (.int .i64 M.ix):=(HK1x.out.alloc _).cell 1 rfl;have g2:(wc.alloc (.cells (msV (okM 12 M.ix M.sub false) none 0 0) 95)).cell? ⟨w.heap.size,2,none⟩=some (.int .i64 M.sub):=(HK1x.out.alloc _).cell 2 rfl;have g3:((wc.setCell ⟨p,2,none⟩ (.int .i64 M.ix)).alloc (.cells (msV (okM 12 M.ix M.sub false) none 0 0) 95)).cell? ⟨w.heap.size,1,none⟩=some (.int .i64 M.ix):=((HK1x.out.far (p:=⟨p,2,none⟩) (show w.heap.size≠p by omega) _).alloc _).cell 1 rfl
        have g4:((wc.setCell ⟨p,2,none⟩ (.int .i64 M.ix)).alloc (.cells (msV (okM 12 M.ix M.sub false) none 0 0) 95)).cell? ⟨w.heap.size,2,none⟩=some (.int .i64 M.sub):=((HK1x.out.far (p:=⟨p,2,none⟩) (show w.heap.size≠p by omega) _).alloc _).cell 2 rfl;unfold msV okM at g1 g2 g3 g4;go_wp2_with fail
        refine zaj (fun w'=>w'.cell? ⟨w.heap.size,1,none⟩=some (.int .i64 M.ix)∧ w'.cell? ⟨w.heap.size,2,none⟩=some (.int .i64 M.sub)) [0,1,2,3,4,5,6,7,9,10] (by kernel_rfl) ?hS67 (fun hHeld=>?rest67)
        case hS67=>((try dsimp only);exact⟨g1,g2⟩)
        case' rest67=>skip
        refine tkT 0 ?_;try simp only[PqL,Act.put]
        refine tkT 1 ?_;try simp only[PqL,Act.put]
        refine tkT 2 ?_;try simp only[PqL,Act.put]
        refine tkT 3 ?_;try simp only[PqL,Act.put]
        refine tkT 4 ?_;try simp only[PqL,Act.put]
        refine tkT 5 ?_;try simp only[PqL,Act.put]
        refine tkT 6 ?_;try simp only[PqL,Act.put]
        refine tkT 7 ?_;try simp only[PqL,Act.put]
        refine zag (i:=8) (o:=_) rfl (by kernel_rfl) (fun K hK=>?_)
        go_simp
        refine hK.out _ _ ?hS77 (fun hHeld=>?rest77)
        case hS77=>((try dsimp only);(exact⟨g3,g4⟩))
        case' rest77=>(clear hK K;try simp only[PqL,Act.put])
        refine tkT 9 ?_;try simp only[PqL,Act.put]
        refine tkT 10 ?_;try simp only[PqL,Act.put]
        refine zah (i:=11) (o:=_) rfl (by kernel_rfl) (by kernel_rfl) (fun K hK=>?_)
        go_simp
        refine hK.out _ _ ?rest81
        case' rest81=>(clear hK K;try simp only[PqL,Act.put])
        refine zai (by kernel_rfl) ?_ _
        repeat (clear hHeld)
        clear g1 g2 g3 g4;go_wp2_with fail
        refine zlm HW7.out (fun W7 hW7=>?_);clear HW7;obtain⟨hO7,hB7,hM7,hK7,hE7,hG7,hz7⟩:=hW7;have hMx:=HMD.out;refine (zkr p pd { S with ix:=M.ix,sub:=M.sub } A n1 c1 A3 m3 c3 M.data 12 M.ix M.sub false _ hB7 HM.out hm1 (fun W h=>HMD.out W (hO7.trans h (fun _ _ h=>h)))).mono ?_;rintro e w8 ⟨A5,c5,rfl,hO8,hB8,ho8⟩;unfold outV;dsimp only;have HK8:=zak (zjo hK7 ho8 (fun e=>hne1 e.symm));have HO8:=zak (hO8.mono (B':=w.heap.size+2) hz7);have HB8:=zak hB8;have HOo:=zak (hO7.trans ho8 (fun _ _ h=>h));have HR:Hid (P=SOutR w G p pd (writeS { S with ix:=M.ix,sub:=M.sub } (okM 12 M.ix M.sub false)) ⟨[],true,M.ix,M.sub,M.data⟩):=zak (by
         rw[HP.out]
         congr 1
         · unfold downS;rw[if_neg (by rw[HDC.out];simp),if_pos (by rw[←List.length_pos_iff,←HM.out];omega)];rfl
         · unfold downO;rw[if_neg (by rw[HDC.out];simp),if_pos (by rw[←List.length_pos_iff,←HM.out];omega)])
        clear aB aC aD aE aF aO;clear k2 hK7 hB7 hM7 hE7 hG7 hO8 hB8;have k2:=HK8.out;unfold outV outZ at k2;obtain⟨aB,aC,aD,aE,aF⟩:=zc9 k2;have aO:=k2.frozen;go_wp2_with fail
        obtain⟨F1,F2⟩:=zll (G:=G) (ix:=M.ix) (sub:=M.sub) HK8.out HO8.out HB8.out rfl HOo.out hz;rw[←HR.out] at F2;clear HR;unfold putO at F1 F2;dsimp only at F1 F2;refine zj2 (O:=⟨[],true,M.ix,M.sub,M.data⟩) rfl rfl rfl F1 ?_;exact F2
      · skip
        have HW7:=zak (zln (S:=S) (A:=A) (n1:=n1) (c1:=c1) (pd:=pd) M.ix M.sub (okM 12 M.ix M.sub false) hbwy HBX.out HK1x.out HK2y.out HEb.out hz (show ge≠p by omega));have g1:(wc.alloc (.cells (msV (okM 12 M.ix M.sub false) none 0 0) 95)).cell? ⟨w.heap.size,1,none⟩=some (.int .i64 M.ix):=(HK1x.out.alloc _).cell 1 rfl;have g2:(wc.alloc (.cells (msV (okM 12 M.ix M.sub false) none 0 0) 95)).cell? ⟨w.heap.size,2,none⟩=some (.int .i64 M.sub):=(HK1x.out.alloc _).cell 2 rfl;have g3:((wc.setCell ⟨p,2,none⟩ (.int .i64 M.ix)).alloc (.cells (msV (okM 12 M.ix M.sub false) none 0 0) 95)).cell? ⟨w.heap.size,1,none⟩=some (.int .i64 M.ix):=((HK1x.out.far (p:=⟨p,2,none⟩) (show w.heap.size≠p by omega) _).alloc _).cell 1 rfl
        have g4:((wc.setCell ⟨p,2,none⟩ (.int .i64 M.ix)).alloc (.cells (msV (okM 12 M.ix M.sub false) none 0 0) 95)).cell? ⟨w.heap.size,2,none⟩=some (.int .i64 M.sub):=((HK1x.out.far (p:=⟨p,2,none⟩) (show w.heap.size≠p by omega) _).alloc _).cell 2 rfl;unfold msV okM at g1 g2 g3 g4;go_wp2_with fail
        refine zaj (fun w'=>w'.cell? ⟨w.heap.size,1,none⟩=some (.int .i64 M.ix)∧ w'.cell? ⟨w.heap.size,2,none⟩=some (.int .i64 M.sub)) [0,1,2,3,4,5,6,7,9,10] (by kernel_rfl) ?hS83 (fun hHeld=>?rest83)
        case hS83=>((try dsimp only);exact⟨g1,g2⟩)
        case' rest83=>skip
        refine tkT 0 ?_;try simp only[PqL,Act.put]
        refine tkT 1 ?_;try simp only[PqL,Act.put]
        refine tkT 2 ?_;try simp only[PqL,Act.put]
        refine tkT 3 ?_;try simp only[PqL,Act.put]
        refine tkT 4 ?_;try simp only[PqL,Act.put]
        refine tkT 5 ?_;try simp only[PqL,Act.put]
        refine tkT 6 ?_;try simp only[PqL,Act.put]
        refine tkT 7 ?_;try simp only[PqL,Act.put]
        refine zag (i:=8) (o:=_) rfl (by kernel_rfl) (fun K hK=>?_)
        go_simp
        refine hK.out _ _ ?hS93 (fun hHeld=>?rest93)
        case hS93=>((try dsimp only);(exact⟨g3,g4⟩))
        case' rest93=>(clear hK K;try simp only[PqL,Act.put])
        refine tkT 9 ?_;try simp only[PqL,Act.put]
        refine tkT 10 ?_;try simp only[PqL,Act.put]
        refine zah (i:=11) (o:=_) rfl (by kernel_rfl) (by kernel_rfl) (fun K hK=>?_)
        go_simp
        refine hK.out _ _ ?rest97
        case' rest97=>(clear hK K;try simp only[PqL,Act.put])
        refine zai (by kernel_rfl) ?_ _
        repeat (clear hHeld)
        clear g1 g2 g3 g4;go_wp2_with fail
        refine zlm HW7.out (fun W7 hW7=>?_);clear HW7;obtain⟨hO7,hB7,hM7,hK7,hE7,hG7,hz7⟩:=hW7;have hMx:=HMD.out;refine (zkr p pd { S with ix:=M.ix,sub:=M.sub } A n1 c1 A3 m3 c3 M.data 12 M.ix M.sub false _ hB7 HM.out hm1 (fun W h=>HMD.out W (hO7.trans h (fun _ _ h=>h)))).mono ?_;rintro e w8 ⟨A5,c5,rfl,hO8,hB8,ho8⟩;unfold outV;dsimp only;have HK8:=zak (zjo hK7 ho8 (fun e=>hne1 e.symm));have HO8:=zak (hO8.mono (B':=w.heap.size+2) hz7);have HB8:=zak hB8;have HOo:=zak (hO7.trans ho8 (fun _ _ h=>h));have HR:Hid (P=SOutR w G p pd (writeS { S with ix:=M.ix,sub:=M.sub } (okM 12 M.ix M.sub false)) ⟨[],true,M.ix,M.sub,M.data⟩):=zak (by
         rw[HP.out]
         congr 1
         · unfold downS;rw[if_neg (by rw[HDC.out];simp),if_pos (by rw[←List.length_pos_iff,←HM.out];omega)];rfl
         · unfold downO;rw[if_neg (by rw[HDC.out];simp),if_pos (by rw[←List.length_pos_iff,←HM.out];omega)])
        clear aB aC aD aE aF aO;clear k2 hK7 hB7 hM7 hE7 hG7 hO8 hB8;have k2:=HK8.out;unfold outV outZ at k2;obtain⟨aB,aC,aD,aE,aF⟩:=zc9 k2;have aO:=k2.frozen;go_wp2_with fail
        obtain⟨F1,F2⟩:=zll (G:=G) (ix:=M.ix) (sub:=M.sub) HK8.out HO8.out HB8.out rfl HOo.out hz;rw[←HR.out] at F2;clear HR;unfold putO at F1 F2;dsimp only at F1 F2;refine zj2 (O:=⟨[],true,M.ix,M.sub,M.data⟩) rfl rfl rfl F1 ?_;exact F2
  · have HDC:Hid (dcode L M=k0):=zak (by unfold dcode;rw[if_neg (by rw[hk0];omega),hk0]);clear hE hk0;have HR:Hid (P=SOutR w G p pd S (outM (abM M.ix M.sub k0))):=zak (by
     rw[HP.out]
     congr 1
     · unfold downS;rw[if_pos (by rw[HDC.out];omega)]
     · unfold downO;rw[if_pos (by rw[HDC.out];omega),HDC.out];rfl)
    go_wp2_with fail
    refine (zj9 M.ix M.sub k0 _).mono ?_;rintro e w5 ⟨rfl,hBg,hb5,hz5⟩;have HK25:=zak (HK2y.out.below hb5 HK2y.out.lt);have HBG:=zak hBg;have hbw5:=zc4 hb5 hbwy;have HS5:=zak (HS0.out.keep (w':=w5) (H:=fun q=>((G q∨w.heap.size≤q)∧ ¬False)∧ q≠w.heap.size+1) (fun q _ hq=>hbw5.block q hq) hbw5.size (fun q h1 h2=>⟨⟨.inl h2,id⟩,by omega⟩));have HO5:=zak (zd0.of_below (F:=fun q=>q=p) hbw5);clear aB aC aD aE aF aO;clear k2 hBg;have k2:=HK25.out;unfold outV outZ at k2;obtain⟨aB,aC,aD,aE,aF⟩:=zc9 k2;have aO:=k2.frozen;go_wp2_with fail
    have hgz:w.heap.size+2≤wc.heap.size:=HK2y.out.lt;obtain⟨F1,F2⟩:=zkv (fun _=>False) HK25.out hgz HBG.out (zdv.nil _ _) (FIn.nil _) HS5.out HO5.out hz;rw[←HR.out] at F2;clear HR;unfold putO outZ at F1 F2;dsimp only at F1 F2;refine zj2 (O:=⟨[],false,0,0,[]⟩) rfl rfl rfl F1 ?_;exact F2
end
end
end Go.Proofs.YtkkpjbjmhaecjaaGreat
