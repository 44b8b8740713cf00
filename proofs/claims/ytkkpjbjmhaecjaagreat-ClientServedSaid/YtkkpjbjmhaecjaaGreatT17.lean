/- None -/
import Derived.Test.YtkkpjbjmhaecjaaGreatT16
namespace Go.Proofs.YtkkpjbjmhaecjaaGreat
set_option linter.all false
set_option maxRecDepth 100000
set_option maxHeartbeats 4000000
section
open Go.RowKit
def ArgW (w:World) (p pd:Nat) (S:SegS) (A:Option Addr) (n1 c1:Nat) (M:Ms) (A3:Option Addr) (m3 c3:Nat) (W:World):Prop:=
 Below w.heap.size w W∧Blk W p 195 (srvV S pd A n1 c1)∧ Blk W w.heap.size 95 (msV M A3 m3 c3)∧ Blk W (w.heap.size+1) 93 (outV none 0 0 outZ none 0 0)∧ W.heap.size=w.heap.size+1+1
theorem zk0 {w:World}{p pd:Nat}{S:SegS}{A:Option Addr}{n1 c1:Nat}(M:Ms)(A3:Option Addr)(m3 c3:Nat)(hB:Blk w p 195 (srvV S pd A n1 c1)) :
 ArgW w p pd S A n1 c1 M A3 m3 c3 ((w.alloc (.cells (msV M A3 m3 c3) 95)).alloc (.cells (outV none 0 0 outZ none 0 0) 93)):=by
 obtain⟨k1,k2⟩:=zdh w 95 93 (msV M A3 m3 c3) (outV none 0 0 outZ none 0 0);have hbw:=zc5 (zc5 (Below.refl w.heap.size w) (.cells (msV M A3 m3 c3) 95)) (.cells (outV none 0 0 outZ none 0 0) 93);exact⟨hbw,hB.below hbw hB.lt,k1,k2,by simp⟩
def NxtW (w:World) (p pd:Nat) (S':SegS) (A:Option Addr) (n1 c1:Nat) (M:Ms) (A3:Option Addr) (m3 c3:Nat) (b:List UInt8) (W:World):Prop:=
 zd0 (fun q=>q=p) w W∧Blk W p 195 (srvV S' pd A n1 c1)∧ Blk W w.heap.size 95 (msV M A3 m3 c3)∧ Blk W (w.heap.size+1) 93 (outV none 0 0 outZ none 0 0)∧ w.heap.size+2≤W.heap.size∧Sl W A (b.map bv)
def CutW (w W1:World) (p pd:Nat) (S':SegS) (A:Option Addr) (n1 c1:Nat) (b:List UInt8) (s6:Value) (K:Ms) (N:Nat) (wx:World):Prop:=
 ∃gk A4 c4,s6= .pointer (some ⟨gk,0,none⟩)∧ W1.heap.size≤gk∧Blk wx gk 95 (msV K A4 N c4)∧ zdv wx W1.heap.size A4 N c4 K.data∧zd0 (fun q=>q=p) w wx∧Blk wx p 195 (srvV S' pd A n1 c1)∧ Blk wx (w.heap.size+1) 93 (outV none 0 0 outZ none 0 0)∧ Sl wx A (b.map bv)
theorem zk7 {w W1 w3:World}{p pd:Nat}{S':SegS}{A:Option Addr}{n1 c1:Nat}{b:List UInt8}(K:Ms){N:Nat}{A4:Option Addr}{c4:Nat}(hb:Below W1.heap.size W1 w3)(hO:zdv w3 W1.heap.size A4 N c4 K.data)(h1:zd0 (fun q=>q=p) w W1)(h2:Blk W1 p 195 (srvV S' pd A n1 c1))
 (h3:Blk W1 (w.heap.size+1) 93 (outV none 0 0 outZ none 0 0)) (h4:Sl W1 A (b.map bv)) (hp:p < W1.heap.size) (hz:w.heap.size+1 < W1.heap.size) (hA:∀ad,A=some ad→ad.block < W1.heap.size) :
 CutW w W1 p pd S' A n1 c1 b (.pointer (some ⟨w3.heap.size,0,none⟩)) K N (w3.alloc (.cells (msV K A4 N c4) 95)):=
 ⟨w3.heap.size,A4,c4,rfl,hb.size,Blk.new _ _ _,hO.alloc _,(h1.step hb).new _,(h2.below hb hp).alloc _,(h3.below hb hz).alloc _,(h4.below hb).alloc _⟩
theorem zk9 {W1 w3:World}{z:Obj}(h:Below (W1.heap.size+1) (W1.alloc z).drew w3):Below W1.heap.size W1 w3:=(zc5 (Below.refl _ _) z).trans (Below.mono (B:=W1.heap.size+1) ⟨h.os,h.tape,h.output,h.size,h.block⟩ (by omega))
theorem zla {W1 w3:World}{t:TypeId}{cs:Array Value}(h:Below (W1.heap.size+1) (W1.alloc (.cells cs t)).drew w3):Blk w3 W1.heap.size t cs:=Blk.below (w:=(W1.alloc (.cells cs t)).drew) (Blk.new W1 t cs) h (by omega)
theorem zlb {w W1 w3:World}{p pd:Nat}{S':SegS}{A:Option Addr}{n1 c1:Nat}{b:List UInt8}(K:Ms){N:Nat}{A4:Option Addr}{c4:Nat}(hb:Below W1.heap.size W1 w3)(hZ:Blk w3 W1.heap.size 95 (msV msZ none 0 0))(hO:zdv w3 (W1.heap.size+1) A4 N c4 K.data)(h1:zd0 (fun q=>q=p) w W1)
 (h2:Blk W1 p 195 (srvV S' pd A n1 c1)) (h3:Blk W1 (w.heap.size+1) 93 (outV none 0 0 outZ none 0 0)) (h4:Sl W1 A (b.map bv)) (hp:p < W1.heap.size) (hz:w.heap.size+1 < W1.heap.size) (hA:∀ad,A=some ad→ad.block < W1.heap.size) :
 CutW w W1 p pd S' A n1 c1 b (.pointer (some ⟨W1.heap.size,0,none⟩)) K N (w3.setCells W1.heap.size 0 (msV K A4 N c4).toList):=by
 have ho:zd0 (fun q=>q=W1.heap.size) w3 (w3.setCells W1.heap.size 0 (msV K A4 N c4).toList):=zeb (F:=fun q=>q=W1.heap.size) rfl _ _ (zd0.refl _ _);have hb5:Below W1.heap.size W1 (w3.setCells W1.heap.size 0 (msV K A4 N c4).toList):=hb.trans (ho.below hb.size (fun i hi=>by omega));have hz1:=h1.size;exact⟨W1.heap.size,A4,c4,rfl,Nat.le_refl _,hZ.all (msV K A4 N c4).toList rfl,(zjp hO ho (fun g hg _ e=>by omega)).mono (by omega),h1.step hb5,h2.below hb5 hp,h3.below hb5 hz,h4.below hb5⟩
theorem zlc {w w':World}{B p gk n c:Nat}{A:Option Addr}{l:List UInt8}{cs:Array Value}(h:zdv w B A n c l)(hK:Blk w gk 95 cs)(ho:zd0 (fun q=>q=p∨q=gk) w w')(hp:p < B):zdv w' B A n c l:=by
 refine⟨h.hn,h.own.keep fun g hB hlt hA=>ho.block g hlt (fun e=>?_)⟩;rcases e with rfl | rfl
 · omega
 · exact zd3 hK h.own (by decide) (by rw[hA];rfl)
def FinW (w W1:World) (p pd:Nat) (S':SegS) (A':Option Addr) (n' c':Nat) (A4:Option Addr) (N c4:Nat) (b:List UInt8) (W:World):Prop:=
 zd0 (fun q=>q=p) w W∧Blk W p 195 (srvV S' pd A' n' c')∧ Blk W (w.heap.size+1) 93 (outV none 0 0 outZ none 0 0)∧ zdv W W1.heap.size A4 N c4 b∧w.heap.size+2≤W.heap.size
theorem zld {w W1:World}{p pd:Nat}{S':SegS}{A':Option Addr}{n' c':Nat}{A4:Option Addr}{N c4:Nat}{b:List UInt8}{W0:World}{f:Nat}{args:Array Value}{K:Ending→World→Prop}(h:FinW w W1 p pd S' A' n' c' A4 N c4 b W0)(k:∀W,FinW w W1 p pd S' A' n' c' A4 N c4 b W→Calls Tryz.prog f args W K):Calls Tryz.prog f args W0 K:=k _ h
theorem zle {A:Option Addr}{c k s:Nat}{ad:Addr}(h:cutA A c k s=some ad):∃a0,A=some a0∧ad.block=a0.block:=by
 unfold cutA at h;split at h
 · exact⟨ad,h,rfl⟩
 · cases A with
   | none=>cases h
   | some a0=>
     injection h with h
     refine⟨a0,rfl,?_⟩;rw[←h];show (a0.add (k * s)).block=a0.block;unfold Addr.add;split<;>rfl
theorem zlf {A:Option Addr}{c k s:Nat}(h:cutA A c k s=none):A=none:=by
 unfold cutA at h;split at h
 · exact h
 · cases A with
   | none=>rfl
   | some a0=>cases h
theorem zlg (p pd:Nat)(S:SegS)(G:Nat→Prop)(M:Ms)(A3:Option Addr)(m3 c3:Nat)(w:World)(hS:SV_ w G p pd S)(h2:S.st=2)(h256:S.b.length≤256) :
 Calls Tryz.prog 215 #[.pointer (some ⟨p,0,none⟩),.agg (msV M A3 m3 c3)] w (SOutR w G p pd (nextS S M) (nextO S M)):=by
 obtain⟨A,n1,c1,hB,hby⟩:=id hS;obtain⟨hn1,hc1,hsl,hAn,hAG⟩:=hby (.inr h2);obtain⟨P,hP⟩:∃P,P=SOutR w G p pd (nextS S M) (nextO S M):=⟨_,rfl⟩;rw[←hP];have HP:=zak hP;have HB:=zak hB;have hz:=hB.lt;have HS0:Hid (SV_ w G p pd S):=zak hS;have HN1:=zak hn1;have HSL:=zak hsl;have HAG:=zak hAG;have HAN:=zak hAn;have H2:=zak h2;have hne1:p≠w.heap.size+1:=by omega
 have hb256:n1≤256:=by omega
 have HH:Hid (ArgW w p pd S A n1 c1 M A3 m3 c3 _):=zak (zk0 M A3 m3 c3 hB);clear hP hS hB hby hn1 hsl hAn hAG h256 h2;unfold msV outV outZ at HH;unfold msV;go_enter Tryz.func215,Tryz.ntmps215
 go_wp2_with fail
 refine zed (P:=ArgW w p pd S A n1 c1 M A3 m3 c3) HH.out (fun W hW=>?_);clear HH;obtain⟨hbw,hBW,hK1,hK2,hWz⟩:=hW;have HBW:=zak hBW;have HK1:=zak hK1;have HK2:=zak hK2;have zW:=hBW.lt;have zK:=hK2.lt;have zK1:=hK1.lt;have b7:W.cell? ⟨p,7,none⟩=some (.bool S.tg):=hBW.cell 7 rfl;have b3:W.cell? ⟨w.heap.size,3,none⟩=some (.bool M.tg):=hK1.cell 3 rfl;have HWZ:=zak hWz;clear hBW hK1 hK2 hWz;by_cases htg:M.tg=S.tg
 · have hself:(M.tg == S.tg)=true:=by simp[htg]
   have HTG:=zak htg;clear htg;refine wp_region_held_drew (S:=(fun w'=>(∀qA:Addr,qA.block < (W).heap.size→w'.cell? qA=(W).cell? qA)∧ Below (W).heap.size (W) w')) (by kernel_rfl) ?hS1 (fun hHeld=>?rest1)
   case hS1=>exact kSn
   case' rest1=>skip
   iterate 7 (refine tkN ?_;try simp only[PqL,Act.put])
   refine wpAnyH_done (by kernel_rfl) ?_ _;have hEnd:=hHeld.2
   repeat (clear hHeld)
   clear hEnd;have bb:=HBW.out;have kk:=HK1.out;unfold srvV at bb;unfold msV at kk;obtain⟨ak,al,av,aw,ax,ay,az,aA⟩:=zdb bb;have aN:=bb.frozen;obtain⟨bK,bL,bM,bN,bO,bP,bQ,bR,bS,bT,bw,bx,bz,bA⟩:=zde kk;have cL:=kk.frozen;by_cases hle:n1≤7
   · have hmin:min (n1:Int) 7=(n1:Int):=by omega
     go_upto_region 5 with fail
     have r1:Blk (W.setCell ⟨p,7,none⟩ (.bool !S.tg)) p 195 (srvV { S with tg:=!S.tg } pd A n1 c1):=HBW.out.set_ 7 (.bool !S.tg)
     have HX:Hid (NxtW w p pd { S with tg:=!S.tg } A n1 c1 M A3 m3 c3 S.b (W.setCell ⟨p,7,none⟩ (.bool !S.tg)).drew):=zak
      ⟨((zd0.of_below (F:=fun q=>q=p) hbw).set _ rfl _).drew,r1,HK1.out.far (p:=⟨p,7,none⟩) (show w.heap.size≠p by omega) _,HK2.out.far (p:=⟨p,7,none⟩) (show w.heap.size+1≠p by omega) _,by
        have h1:(W.setCell ⟨p,7,none⟩ (.bool !S.tg)).heap.size=W.heap.size:=by simp[World.setCell]
        have h2:=HWZ.out;show w.heap.size+2≤(W.setCell ⟨p,7,none⟩ (.bool !S.tg)).heap.size;omega,zks HSL.out (fun ad e=>((zd0.of_below (F:=fun q=>q=p) hbw).set _ rfl _).block ad.block (HAG.out ad e).2.1 (HAG.out ad e).2.2)⟩
     clear r1;clear ak al av aw ax ay az aA aN;clear bK bL bM bN bO bP bQ bR bS bT bw bx bz bA cL;clear bb kk hmin;refine zed (P:=NxtW w p pd { S with tg:=!S.tg } A n1 c1 M A3 m3 c3 S.b) HX.out (fun W1 hW1=>?_);clear HX;obtain⟨hO1,hB1,hK1,hK2,hz1,hs1⟩:=hW1;have HO1:=zak hO1;have HB1:=zak hB1;have HK1b:=zak hK1;have HK2b:=zak hK2;have HS1:=zak hs1;have y6:W1.cell? ⟨p,6,none⟩=some (.slice A n1 c1):=hB1.cell 6 rfl;have y3:W1.cell? ⟨w.heap.size,3,none⟩=some (.bool M.tg):=hK1.cell 3 rfl;have zp1:=hB1.lt;have zk1:=hK1.lt;have HAL1:Hid (∀ad,A=some ad→ad.block < W1.heap.size):=zak (fun ad e=>by have:=(HAG.out ad e).2.1;omega)
     have hcut:=fun W=>zjw A n1 c1 n1 (n1:Int) .i64 rfl (by omega) W
     clear hO1 hB1 hK1 hK2 hs1;go_cut [6] (fun s wx=>CutW w W1 p pd { S with tg:=!S.tg } A n1 c1 S.b s (segM M.tg false (S.b.take n1)) n1 wx)
     case first=>
      refine wp_region_held_drew (S:=(fun w'=>(∀qA:Addr,qA.block < (W1).heap.size→w'.cell? qA=(W1).cell? qA)∧ Below (W1).heap.size (W1) w')) (by kernel_rfl) ?hS10 (fun hHeld=>?rest10)
      case hS10=>exact kSn
      case' rest10=>skip
      iterate 8 (refine tkN ?_;try simp only[PqL,Act.put])
      refine wpAnyH_ready (rs:=[8,10]) (by kernel_rfl) (by simp) (AllReadyH.cons (o:=_) rfl (fun K hK=>?_) (AllReadyH.cons (o:=_) rfl (fun K hK=>?_) .nil))
      · rw[if_pos (show Region.wanted _ _=true by kernel_rfl)];refine zju _ _ rfl W1.heap.size none 0 0 [] rfl (zdv.nil _ _) A n1 c1 (S.b.take n1) rfl (by simp;have:=HN1.out;omega) (by rw[List.map_take];exact HS1.out.take _) (by omega) (Nat.le_refl _) n1 (by omega) ?_;intro A4 c4 w3 hO4 hb4;replace hb4:=zke hb4;have HO4:=zak hO4;clear hO4;refine hK.out _ _ ?hS20 (fun hHeld=>?rest20)
        case hS20=>exact kSn
        case' rest20=>(clear hK K;try simp only[PqL,Act.put])
        refine tkH 9 ?_;try simp only[PqL,Act.put]
        refine kRd 10 (fun K hK=>?_)
        go_simp
        refine hK.out _ _ ?hS24 (fun hHeld=>?rest24)
        case hS24=>exact kSn
        case' rest24=>(clear hK K;try simp only[PqL,Act.put])
        refine kRd 11 (fun K hK=>?_)
        go_simp
        refine hK.out _ _ ?hS27 (fun hHeld=>?rest27)
        case hS27=>exact kSn
        case' rest27=>(clear hK K;try simp only[PqL,Act.put])
        refine wpAnyH_done (by kernel_rfl) ?_ _;have hEnd:=hHeld.2
        repeat (clear hHeld)
        go_wp2_with fail
        go_meet
        exact zk7 (segM M.tg false (S.b.take n1)) hb4 HO4.out HO1.out HB1.out HK2b.out HS1.out (by omega) (by omega) HAL1.out
      · go_simp
        refine hK.out _ _ ?hS29 (fun hHeld=>?rest29)
        case hS29=>exact kSn
        case' rest29=>(clear hK K;try simp only[PqL,Act.put])
        refine kRd 8 (fun K hK=>?_);rw[if_pos (show Region.wanted _ _=true by kernel_rfl)];refine zju _ _ rfl (W1.heap.size+1) none 0 0 [] rfl (zdv.nil _ _) A n1 c1 (S.b.take n1) rfl (by simp;have:=HN1.out;omega) (by rw[List.map_take];exact (HS1.out.take _).alloc _) (by omega) (by simp) n1 (by omega) ?_;intro A4 c4 w3 hO4 hb4;have HO4:=zak hO4;have hbz:Below W1.heap.size W1 (W1.alloc (.cells (msV msZ none 0 0) 95)):=zc5 (Below.refl _ _) _;have hb5:Below W1.heap.size W1 w3:=zk9 hb4;have hZ3:Blk w3 W1.heap.size 95 (msV msZ none 0 0):=zla hb4;have HZ3:=zak hZ3;unfold msV msZ at hZ3;obtain⟨fG,fH,fI,fJ,fK,fL,fM,fN,fP,fQ,eY,jm,jn,jo⟩:=zde hZ3
        have iL:=hZ3.frozen;clear hO4 hb4 hbz;refine hK.out _ _ ?hS32 (fun hHeld=>?rest32)
        case hS32=>exact kSn
        case' rest32=>(clear hK K;try simp only[PqL,Act.put])
        refine tkH 9 ?_;try simp only[PqL,Act.put]
        refine kRd 11 (fun K hK=>?_)
        go_simp
        refine hK.out _ _ ?hS36 (fun hHeld=>?rest36)
        case hS36=>exact kSn
        case' rest36=>(clear hK K;try simp only[PqL,Act.put])
        refine wpAnyH_done (by kernel_rfl) ?_ _;have hEnd:=hHeld.2
        repeat (clear hHeld)
        go_wp2_with fail
        go_meet
        have F:=zlb (segM M.tg false (S.b.take n1)) hb5 HZ3.out HO4.out HO1.out HB1.out HK2b.out HS1.out (by omega) (by omega) HAL1.out;simp only[World.setCells,msV,Nat.reduceAdd] at F;exact F
     case rest=>
      obtain⟨gk,A4,c4,rfl,hgk,hKb,hO4,hOnly,hB4,hK4,hS4⟩:=hcut;have HB4:=zak hB4;have HK4:=zak hK4;have HKB:=zak hKb;have HO4:=zak hO4;have HOnly:=zak hOnly;have HS4:=zak hS4;have hgp:gk≠p:=by omega
      have hpg:p≠gk:=by omega
      have zwp:=hB4.lt;have zwk:=hK4.lt;unfold msV segM at hKb;unfold srvV at hB4;obtain⟨fR,fT,fU,fV,fW,fX,fY,fZ,gc,gd,eZ,fb,fc,fd⟩:=zde hKb;have iM:=hKb.frozen;obtain⟨gf,gh,gi,gj,gm,gn,gp,gq⟩:=zdb hB4;have iN:=hB4.frozen;have hcutl:∀W,(Instr.slice 27 (.slice A n1 c1) (some (.int .i64 (n1:Int))) none none).run Tryz.prog W= .ok (.slice (cutA A c1 n1 1) 0 (c1 - n1)) W:=fun W=>by have:=zdy A n1 c1 n1 (n1:Int) .i64 rfl (Nat.le_refl _) hc1 W;rw[Nat.sub_self] at this;exact this
      clear hO4 hK4 hS4 hOnly;try clear hcut
      go_wp2_with fail
      have HNX:Hid (nextS S M= { S with st:=0,tg:=!S.tg,b:=[] }):=zak (by unfold nextS;rw[if_neg (by rw[HTG.out];simp),if_pos (by rw[←HN1.out];exact hle)]);have HR:Hid (P=SOutR w G p pd (nextS S M) (outM (segM M.tg true (S.b.take n1)))):=zak (by rw[HP.out];congr 1;unfold nextO;rw[if_neg (by rw[HTG.out];simp),show decide (S.b.length≤7)=true by rw[←HN1.out];simp[hle],List.take_of_length_le (by rw[←HN1.out];exact hle),List.take_of_length_le (by rw[←HN1.out];exact Nat.le_refl _)]);refine zld (W1:=W1) (S':=nextS S M) (A':=(cutA A c1 n1 1)) (n':=0) (c':=(c1 - n1)) (A4:=A4) (N:=n1) (c4:=c4) (b:=S.b.take n1) (by rw[HNX.out];exact⟨((HOnly.out.set _ rfl _).setNew (show w.heap.size≤gk by omega) _).set _ rfl _,((HB4.out.set_ 6 (.slice (cutA A c1 n1 1) 0 (c1 - n1))).far (p:=⟨gk,4,none⟩) hpg (.bool true)).set_ 1 (.int .i64 0),((HK4.out.far (p:=⟨p,6,none⟩) (show w.heap.size+1≠p by omega) _).far (p:=⟨gk,4,none⟩) (show w.heap.size+1≠gk by omega) _).far (p:=⟨p,1,none⟩) (show w.heap.size+1≠p by omega) _,zlc (p:=p) HO4.out HKB.out ((((zd0.refl (fun q=>q=p∨q=gk) wc).set _ (.inl rfl) _).set _ (.inr rfl) _).set _ (.inl rfl) _) (by omega),by simp[World.setCell];omega⟩) (fun W5 hW5=>?_)
      obtain⟨hO5,hB5,hK5,hOw5,hz5⟩:=hW5;refine (zka (segM M.tg true (S.b.take n1)) A4 n1 c4 _).mono ?_;rintro e w3 ⟨g,hg,rfl,hBg,hb3⟩;unfold outV outZ;dsimp only;have HK23:=zak (hK5.below hb3 hK5.lt);have HBG:=zak hBg;have HOw:=zak (hOw5.below hb3);have HO3:=zak (hO5.step hb3);have HS3:Hid (SV_ w3 (fun q=>((G q∨w.heap.size≤q)∧ ¬W1.heap.size≤q)∧ q≠w.heap.size+1) p pd (nextS S M)):=zak ⟨_,_,_,hB5.below hb3 hB5.lt,fun h=>absurd h (by rw[HNX.out];simp)⟩;have k2:=HK23.out;unfold outV outZ at k2;obtain⟨aB,aC,aD,aE,aF⟩:=zc9 k2;have aO:=k2.frozen;clear hBg hB5 hO5 hOw5;clear fR fT fU fV fW fX fY fZ gc gd eZ fb fc fd iM
      clear gf gh gi gj gm gn gp gq iN;go_wp2_with fail
      obtain⟨F1,F2⟩:=zkv (fun q=>W1.heap.size≤q) HK23.out (by omega) HBG.out (HOw.out.mono (by omega)) (HOw.out.own.fin.mono (fun q h=>h.1)) HS3.out HO3.out hz;rw[←HR.out] at F2;clear HR;unfold putO outZ at F1 F2;dsimp only at F1 F2;refine zj2 (O:=⟨[],false,0,0,[]⟩) rfl rfl rfl F1 ?_;exact F2
   · have hmin:min (n1:Int) 7=7:=by omega
     have h7:(7:Int) < (n1:Int):=by omega
     go_upto_region 5 with fail
     have r1:Blk (W.setCell ⟨p,7,none⟩ (.bool !S.tg)) p 195 (srvV { S with tg:=!S.tg } pd A n1 c1):=HBW.out.set_ 7 (.bool !S.tg)
     have HX:Hid (NxtW w p pd { S with tg:=!S.tg } A n1 c1 M A3 m3 c3 S.b (W.setCell ⟨p,7,none⟩ (.bool !S.tg)).drew):=zak
      ⟨((zd0.of_below (F:=fun q=>q=p) hbw).set _ rfl _).drew,r1,HK1.out.far (p:=⟨p,7,none⟩) (show w.heap.size≠p by omega) _,HK2.out.far (p:=⟨p,7,none⟩) (show w.heap.size+1≠p by omega) _,by
        have h1:(W.setCell ⟨p,7,none⟩ (.bool !S.tg)).heap.size=W.heap.size:=by simp[World.setCell]
        have h2:=HWZ.out;show w.heap.size+2≤(W.setCell ⟨p,7,none⟩ (.bool !S.tg)).heap.size;omega,zks HSL.out (fun ad e=>((zd0.of_below (F:=fun q=>q=p) hbw).set _ rfl _).block ad.block (HAG.out ad e).2.1 (HAG.out ad e).2.2)⟩
     clear r1;clear ak al av aw ax ay az aA aN;clear bK bL bM bN bO bP bQ bR bS bT bw bx bz bA cL;clear bb kk hmin;refine zed (P:=NxtW w p pd { S with tg:=!S.tg } A n1 c1 M A3 m3 c3 S.b) HX.out (fun W1 hW1=>?_);clear HX;obtain⟨hO1,hB1,hK1,hK2,hz1,hs1⟩:=hW1;have HO1:=zak hO1;have HB1:=zak hB1;have HK1b:=zak hK1;have HK2b:=zak hK2;have HS1:=zak hs1;have y6:W1.cell? ⟨p,6,none⟩=some (.slice A n1 c1):=hB1.cell 6 rfl;have y3:W1.cell? ⟨w.heap.size,3,none⟩=some (.bool M.tg):=hK1.cell 3 rfl;have zp1:=hB1.lt;have zk1:=hK1.lt;have HAL1:Hid (∀ad,A=some ad→ad.block < W1.heap.size):=zak (fun ad e=>by have:=(HAG.out ad e).2.1;omega)
     have hcut:=fun W=>zjw A n1 c1 7 (7:Int) .i64 rfl (by omega) W
     clear hO1 hB1 hK1 hK2 hs1;go_cut [6] (fun s wx=>CutW w W1 p pd { S with tg:=!S.tg } A n1 c1 S.b s (segM M.tg false (S.b.take 7)) 7 wx)
     case first=>
      refine wp_region_held_drew (S:=(fun w'=>(∀qA:Addr,qA.block < (W1).heap.size→w'.cell? qA=(W1).cell? qA)∧ Below (W1).heap.size (W1) w')) (by kernel_rfl) ?hS38 (fun hHeld=>?rest38)
      case hS38=>exact kSn
      case' rest38=>skip
      iterate 8 (refine tkN ?_;try simp only[PqL,Act.put])
      refine wpAnyH_ready (rs:=[8,10]) (by kernel_rfl) (by simp) (AllReadyH.cons (o:=_) rfl (fun K hK=>?_) (AllReadyH.cons (o:=_) rfl (fun K hK=>?_) .nil))
      · rw[if_pos (show Region.wanted _ _=true by kernel_rfl)];refine zju _ _ rfl W1.heap.size none 0 0 [] rfl (zdv.nil _ _) A 7 c1 (S.b.take 7) rfl (by simp;have:=HN1.out;omega) (by rw[List.map_take];exact HS1.out.take _) (by omega) (Nat.le_refl _) 7 (by omega) ?_;intro A4 c4 w3 hO4 hb4;replace hb4:=zke hb4;have HO4:=zak hO4;clear hO4;refine hK.out _ _ ?hS48 (fun hHeld=>?rest48)
        case hS48=>exact kSn
        case' rest48=>(clear hK K;try simp only[PqL,Act.put])
        refine tkH 9 ?_;try simp only[PqL,Act.put]
        refine kRd 10 (fun K hK=>?_)
        go_simp
        refine hK.out _ _ ?hS52 (fun hHeld=>?rest52)
        case hS52=>exact kSn
        case' rest52=>(clear hK K;try simp only[PqL,Act.put])
        refine kRd 11 (fun K hK=>?_)
        go_simp
        refine hK.out _ _ ?hS55 (fun hHeld=>?rest55)
        case hS55=>exact kSn
        case' rest55=>(clear hK K;try simp only[PqL,Act.put])
        refine wpAnyH_done (by kernel_rfl) ?_ _;have hEnd:=hHeld.2
        repeat (clear hHeld)
        go_wp2_with fail
        go_meet
        exact zk7 (segM M.tg false (S.b.take 7)) hb4 HO4.out HO1.out HB1.out HK2b.out HS1.out (by omega) (by omega) HAL1.out
      · go_simp
        refine hK.out _ _ ?hS57 (fun hHeld=>?rest57)
        case hS57=>exact kSn
        case' rest57=>(clear hK K;try simp only[PqL,Act.put])
        refine kRd 8 (fun K hK=>?_);rw[if_pos (show Region.wanted _ _=true by kernel_rfl)];refine zju _ _ rfl (W1.heap.size+1) none 0 0 [] rfl (zdv.nil _ _) A 7 c1 (S.b.take 7) rfl (by simp;have:=HN1.out;omega) (by rw[List.map_take];exact (HS1.out.take _).alloc _) (by omega) (by simp) 7 (by omega) ?_;intro A4 c4 w3 hO4 hb4;have HO4:=zak hO4;have hbz:Below W1.heap.size W1 (W1.alloc (.cells (msV msZ none 0 0) 95)):=zc5 (Below.refl _ _) _;have hb5:Below W1.heap.size W1 w3:=zk9 hb4;have hZ3:Blk w3 W1.heap.size 95 (msV msZ none 0 0):=zla hb4;have HZ3:=zak hZ3;unfold msV msZ at hZ3;obtain⟨fG,fH,fI,fJ,fK,fL,fM,fN,fP,fQ,eY,jm,jn,jo⟩:=zde hZ3
        have iL:=hZ3.frozen;clear hO4 hb4 hbz;refine hK.out _ _ ?hS60 (fun hHeld=>?rest60)
        case hS60=>exact kSn
        case' rest60=>(clear hK K;try simp only[PqL,Act.put])
        refine tkH 9 ?_;try simp only[PqL,Act.put]
        refine kRd 11 (fun K hK=>?_)
        go_simp
        refine hK.out _ _ ?hS64 (fun hHeld=>?rest64)
        case hS64=>exact kSn
        case' rest64=>(clear hK K;try simp only[PqL,Act.put])
        refine wpAnyH_done (by kernel_rfl) ?_ _;have hEnd:=hHeld.2
        repeat (clear hHeld)
        go_wp2_with fail
        go_meet
        have F:=zlb (segM M.tg false (S.b.take 7)) hb5 HZ3.out HO4.out HO1.out HB1.out HK2b.out HS1.out (by omega) (by omega) HAL1.out;simp only[World.setCells,msV,Nat.reduceAdd] at F;exact F
     case rest=>
      obtain⟨gk,A4,c4,rfl,hgk,hKb,hO4,hOnly,hB4,hK4,hS4⟩:=hcut;have HB4:=zak hB4;have HK4:=zak hK4;have HKB:=zak hKb;have HO4:=zak hO4;have HOnly:=zak hOnly;have HS4:=zak hS4;have hgp:gk≠p:=by omega
      have hpg:p≠gk:=by omega
      have zwp:=hB4.lt;have zwk:=hK4.lt;unfold msV segM at hKb;unfold srvV at hB4;obtain⟨fR,fT,fU,fV,fW,fX,fY,fZ,gc,gd,eZ,fb,fc,fd⟩:=zde hKb;have iM:=hKb.frozen;obtain⟨gf,gh,gi,gj,gm,gn,gp,gq⟩:=zdb hB4;have iN:=hB4.frozen;obtain⟨nr,hnr⟩:∃nr,nr=n1 - 7:=⟨_,rfl⟩;have hnr0: ¬nr=0:=by omega
      have HNR:=zak hnr;have hcutl:∀W,(Instr.slice 27 (.slice A n1 c1) (some (.int .i64 (7:Int))) none none).run Tryz.prog W= .ok (.slice (cutA A c1 7 1) nr (c1 - 7)) W:=fun W=>by have:=zdy A n1 c1 7 (7:Int) .i64 rfl (by omega) hc1 W;rw[←hnr] at this;exact this
      clear hnr;clear hO4 hK4 hS4 hOnly;try clear hcut
      go_wp2_with fail
      have HNX:Hid (nextS S M= { S with tg:=!S.tg,b:=S.b.drop 7 }):=zak (by unfold nextS;rw[if_neg (by rw[HTG.out];simp),if_neg (by rw[←HN1.out];exact hle)]);have HR:Hid (P=SOutR w G p pd (nextS S M) (outM (segM M.tg false (S.b.take 7)))):=zak (by rw[HP.out];congr 1;unfold nextO;rw[if_neg (by rw[HTG.out];simp),show decide (S.b.length≤7)=false by rw[←HN1.out];simp;omega]);refine zld (W1:=W1) (S':=nextS S M) (A':=(cutA A c1 7 1)) (n':=nr) (c':=(c1 - 7)) (A4:=A4) (N:=7) (c4:=c4) (b:=S.b.take 7) (by rw[HNX.out];exact⟨HOnly.out.set _ rfl _,HB4.out.set_ 6 (.slice (cutA A c1 7 1) nr (c1 - 7)),HK4.out.far (p:=⟨p,6,none⟩) (show w.heap.size+1≠p by omega) _,zlc (p:=p) HO4.out HKB.out ((zd0.refl (fun q=>q=p∨q=gk) wc).set _ (.inl rfl) _) (by omega),by simp[World.setCell];omega⟩) (fun W5 hW5=>?_)
      obtain⟨hO5,hB5,hK5,hOw5,hz5⟩:=hW5;refine (zka (segM M.tg false (S.b.take 7)) A4 7 c4 _).mono ?_;rintro e w3 ⟨g,hg,rfl,hBg,hb3⟩;unfold outV outZ;dsimp only;have HK23:=zak (hK5.below hb3 hK5.lt);have HBG:=zak hBg;have HOw:=zak (hOw5.below hb3);have HO3:=zak (hO5.step hb3);have HS3:Hid (SV_ w3 (fun q=>((G q∨w.heap.size≤q)∧ ¬W1.heap.size≤q)∧ q≠w.heap.size+1) p pd (nextS S M)):=zak ⟨_,_,_,hB5.below hb3 hB5.lt,fun _=>⟨by rw[HNX.out];simp;have:=HN1.out;have:=HNR.out;omega,by have:=HNR.out;omega,by rw[HNX.out];simp only[List.map_drop];exact (zks HSL.out (fun ad e=>HO3.out.block ad.block (HAG.out ad e).2.1 (HAG.out ad e).2.2)).cut1 (by simp;have:=HN1.out;omega),fun h=>by have:=HAN.out (zlf h);omega,fun ad h=>by
       obtain⟨a0,h1,h2⟩:=zle h
       have:=HAG.out a0 h1
       have:=HO3.out.size
       rw[h2];exact⟨⟨⟨.inl (HAG.out a0 h1).1,by omega⟩,by omega⟩,by omega,(HAG.out a0 h1).2.2⟩⟩⟩
      have k2:=HK23.out;unfold outV outZ at k2;obtain⟨aB,aC,aD,aE,aF⟩:=zc9 k2;have aO:=k2.frozen;clear hBg hB5 hO5 hOw5;clear fR fT fU fV fW fX fY fZ gc gd eZ fb fc fd iM;clear gf gh gi gj gm gn gp gq iN;go_wp2_with fail
      obtain⟨F1,F2⟩:=zkv (fun q=>W1.heap.size≤q) HK23.out (by omega) HBG.out (HOw.out.mono (by omega)) (HOw.out.own.fin.mono (fun q h=>h.1)) HS3.out HO3.out hz;rw[←HR.out] at F2;clear HR;unfold putO outZ at F1 F2;dsimp only at F1 F2;refine zj2 (O:=⟨[],false,0,0,[]⟩) rfl rfl rfl F1 ?_;exact F2
 · have hself:(M.tg == S.tg)=false:=by simp[htg]
   have HTG:=zak htg;clear htg;refine wp_region_held_drew (S:=(fun w'=>(∀qA:Addr,qA.block < (W).heap.size→w'.cell? qA=(W).cell? qA)∧ Below (W).heap.size (W) w')) (by kernel_rfl) ?hS66 (fun hHeld=>?rest66)
   case hS66=>exact kSn
   case' rest66=>skip
   iterate 7 (refine tkN ?_;try simp only[PqL,Act.put])
   refine wpAnyH_done (by kernel_rfl) ?_ _;have hEnd:=hHeld.2
   repeat (clear hHeld)
   clear hEnd;have HR:Hid (P=SOutR w G p pd (abortS S) (outM (abM S.ix S.sub 84082688))):=zak (by
    rw[HP.out]
    congr 1
    · unfold nextS;rw[if_pos HTG.out];rfl
    · unfold nextO abortL;rw[if_pos HTG.out,if_neg (by rw[H2.out];decide)];rfl)
   go_wp2_with fail
   refine (zkb p pd S 84082688 A n1 c1 _ (show Blk W.drew p _ _ from HBW.out)).mono ?_;rintro e w3 ⟨_,h5⟩;obtain⟨g,hg,rfl,hBg,hBp,ho⟩:=h5 (by rw[H2.out];decide);have hgz:w.heap.size+1+1≤g:=by rw[←HWZ.out];exact hg
   have HK23:=zak (zjo (show Blk W.drew (w.heap.size+1) _ _ from HK2.out) ho (fun e=>hne1 e.symm));have HBG:=zak hBg;have HS3:Hid (SV_ w3 (fun q=>((G q∨w.heap.size≤q)∧ ¬False)∧ q≠w.heap.size+1) p pd (abortS S)):=zak ⟨A,n1,c1,hBp,fun h=>absurd h (by simp[abortS])⟩;have HO3:=zak (((zd0.of_below (F:=fun q=>q=p) hbw).drew).trans ho (fun _ _ h=>h));have k2:=HK23.out;unfold outV outZ at k2;obtain⟨aB,aC,aD,aE,aF⟩:=zc9 k2;have aO:=k2.frozen;clear hBg hBp ho h5;go_wp2_with fail
   obtain⟨F1,F2⟩:=zkv (fun _=>False) HK23.out (by omega) HBG.out (zdv.nil _ _) (FIn.nil _) HS3.out HO3.out hz;rw[←HR.out] at F2;clear HR;unfold putO outZ at F1 F2;dsimp only at F1 F2;refine zj2 (O:=⟨[],false,0,0,[]⟩) rfl rfl rfl F1 ?_;exact F2
end
end Go.Proofs.YtkkpjbjmhaecjaaGreat
