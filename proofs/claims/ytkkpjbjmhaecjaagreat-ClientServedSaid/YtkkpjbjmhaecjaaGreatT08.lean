/- None -/
import Derived.Test.YtkkpjbjmhaecjaaGreatT07
namespace Go.Proofs.YtkkpjbjmhaecjaaGreat
set_option linter.all false
set_option maxRecDepth 100000
set_option maxHeartbeats 4000000
section
open Go.RowKit
theorem zf2 (k:Int)(A:Option Addr)(n c:Nat)(b:List UInt8)(w:World)(hn:n=b.length)(h8:b.length=8)(hc:n≤c)(hs:Sl w A (b.map bv))(f:Int)(hf:formI k=f)(hg:f=2∨f=3∨f=6) :
 Calls Tryz.prog 224 #[.int .i64 k,.slice A n c] w (GuessR k b w):=by
 obtain rfl:n=8:=by omega
 obtain⟨b0,b1,b2,b3,b4,b5,b6,b7,rfl⟩:∃b0 b1 b2 b3 b4 b5 b6 b7:UInt8,b= [b0,b1,b2,b3,b4,b5,b6,b7]:=by
  rcases b with _ | ⟨b0,_ | ⟨b1,_ | ⟨b2,_ | ⟨b3,_ | ⟨b4,_ | ⟨b5,_ | ⟨b6,_ | ⟨b7,r⟩⟩⟩⟩⟩⟩⟩⟩<;> simp at h8 ⊢
  exact h8
 have q1:=hs.byte_ (j:=0) (by simp);obtain⟨gb,go,rfl,q0⟩:=q1;have r3:=hs.byte_ (j:=3) (by simp);obtain⟨gb',go',e3,r3⟩:=r3;injection e3 with e3
 injection e3 with e3 e4
 subst e3 e4;simp only[List.getElem_cons_zero,List.getElem_cons_succ,Nat.add_zero] at q0 r3;have lgb:=zal q0;have HF:=zak hf;have HG1:=zak (fun W h=>ze1 (some ⟨gb,go,none⟩) 8 c [b0,b1,b2,b3,b4,b5,b6,b7] 1 2 w.heap.size W hn hc (by omega) (by omega) (by omega) (by omega) (by omega) h);have HG4:=zak (fun W h=>ze1 (some ⟨gb,go,none⟩) 8 c [b0,b1,b2,b3,b4,b5,b6,b7] 4 4 w.heap.size W hn hc (by omega) (by omega) (by omega) (by omega) (by omega) h);have hb0:=b0.toNat_lt;have hb3:=b3.toNat_lt;have HX2:Hid (IntKind.i64.wrap ((leN [b1,b2]:Nat):Int)=((leN [b1,b2]:Nat):Int)):=zak (zfn (by have:=zan [b1,b2];simp only[List.length_cons,List.length_nil] at this;omega)).1
 have HX4:Hid (IntKind.u32.wrap ((leN [b4,b5,b6,b7]:Nat):Int)=((leN [b4,b5,b6,b7]:Nat):Int)):=zak (zfn (by have:=zan [b4,b5,b6,b7];simp only[List.length_cons,List.length_nil] at this;omega)).2.1;have HX3:Hid (IntKind.i64.wrap (b3.toNat:Int)=(b3.toNat:Int)):=zak (zfn (by omega)).1;have HT16:Hid ((bits .and .u8 (b0.toNat:Int) 16 != 0)=decide (b0.toNat / 16 % 2=1)):=zak ((zfj b0.toNat 16 hb0 (by omega)).trans (zcv _ hb0).1);have HT4:Hid ((bits .and .u8 (b0.toNat:Int) 4 != 0)=decide (b0.toNat / 4 % 2=1)):=zak ((zfj b0.toNat 4 hb0 (by omega)).trans (zcv _ hb0).2.1);have HGG:=zak hg;clear hn h8 hf hg
 go_enter Tryz.func224,Tryz.ntmps224
 go_wp2_with fail
 refine (ze3 k _).mono ?_;rintro e w1 ⟨rfl,rfl⟩;rw[HF.out];go_upto_region 4 with fail
 obtain⟨q0',q1'⟩:=zdh w 27 95 #[.slice (some ⟨gb,go,none⟩) 8 c] (msV msZ none 0 0);have hbw:Below w.heap.size w ((w.alloc (.cells #[.slice (some ⟨gb,go,none⟩) 8 c] 27)).alloc (.cells (msV msZ none 0 0) 95)):=kBl;have hs1:Sl ((w.alloc (.cells #[.slice (some ⟨gb,go,none⟩) 8 c] 27)).alloc (.cells (msV msZ none 0 0) 95)) _ _:=(hs.alloc _).alloc _;have hsz:w.heap.size+1 < ((w.alloc (.cells #[.slice (some ⟨gb,go,none⟩) 8 c] 27)).alloc (.cells (msV msZ none 0 0) 95)).heap.size:=by simp
 simp only[msV,msZ] at q0' q1' hbw hs1 hsz;replace q0:=(zc6 hbw).1 _ lgb |>.trans q0
 replace r3:=(zc6 hbw).1 ⟨gb,go+3,none⟩ lgb |>.trans r3
 generalize (w.alloc (.cells #[.slice (some ⟨gb,go,none⟩) 8 c] 27)).alloc _=W at *
 have hsz0:w.heap.size < W.heap.size:=by omega
 have lgb1:gb < W.heap.size:=by omega
 have q0'_c0:=q0'.cell 0 rfl;have q0'_f:=q0'.frozen;go_cut [9] (fun p wx=>GuessC k b0 b1 b2 b3 b4 b5 b6 b7 W p wx)
 case first=>
  go_wp2_with fail
  refine wp_region_held_drew (S:=(fun w'=>(∀qA:Addr,qA.block < (W).heap.size→w'.cell? qA=(W).cell? qA)∧ Below (W).heap.size (W) w')) (by kernel_rfl) ?hS1 (fun hHeld=>?rest1)
  case hS1=>exact kSn
  case' rest1=>skip
  iterate 2 (refine tkN ?_;try simp only[PqL,Act.put])
  refine tkH 4 ?_;try simp only[PqL,Act.put]
  refine tkH 5 ?_;try simp only[PqL,Act.put]
  refine tkH 6 ?_;try simp only[PqL,Act.put]
  refine tkH 7 ?_;try simp only[PqL,Act.put]
  refine tkH 8 ?_;try simp only[PqL,Act.put]
  refine tkH 9 ?_;try simp only[PqL,Act.put]
  refine tkH 10 ?_;try simp only[PqL,Act.put]
  refine tkH 11 ?_;try simp only[PqL,Act.put]
  refine tkH 12 ?_;try simp only[PqL,Act.put]
  refine tkH 13 ?_;try simp only[PqL,Act.put]
  refine tkH 14 ?_;try simp only[PqL,Act.put]
  refine tkH 17 ?_;try simp only[PqL,Act.put]
  refine wpAnyH_ready (rs:=[2,21]) (by kernel_rfl) (by simp) ?_;refine AllReadyH.cons (o:=_) rfl (fun K hK=>?_) (AllReadyH.cons (o:=_) rfl (fun K hK=>?_) .nil)
  · go_simp
    refine (HG1.out _ (by repeat (first | exact hs1 | exact hs1.drew | apply Sl.drew)) (by repeat (first | exact q0' | apply Blk.drew))).mono ?_;rintro e w3 ⟨rfl,rfl⟩;try dsimp only
    refine hK.out _ _ ?hS16 (fun hHeld=>?rest16)
    case hS16=>exact kSn
    case' rest16=>(clear hK K;try simp only[PqL,Act.put])
    refine tkH 3 ?_;try simp only[PqL,Act.put]
    refine wpAnyH_ready (rs:=[15,21]) (by kernel_rfl) (by simp) ?_;refine AllReadyH.cons (o:=_) rfl (fun K hK=>?_) (AllReadyH.cons (o:=_) rfl (fun K hK=>?_) .nil)
    · go_simp
      refine (HG4.out _ (by repeat (first | exact hs1 | exact hs1.drew | apply Sl.drew)) (by repeat (first | exact q0' | apply Blk.drew))).mono ?_;rintro e w3 ⟨rfl,rfl⟩;try dsimp only
      refine hK.out _ _ ?hS18 (fun hHeld=>?rest18)
      case hS18=>exact kSn
      case' rest18=>(clear hK K;try simp only[PqL,Act.put])
      refine tkH 16 ?_;try simp only[PqL,Act.put]
      refine wpAnyH_ready (rs:=[18,21]) (by kernel_rfl) (by simp) ?_;refine AllReadyH.cons (o:=_) rfl (fun K hK=>?_) (AllReadyH.cons (o:=_) rfl (fun K hK=>?_) .nil)
      · go_simp
        refine (HG4.out _ (by repeat (first | exact hs1 | exact hs1.drew | apply Sl.drew)) (by repeat (first | exact q0' | apply Blk.drew))).mono ?_;rintro e w3 ⟨rfl,rfl⟩;try dsimp only
        refine hK.out _ _ ?hS20 (fun hHeld=>?rest20)
        case hS20=>exact kSn
        case' rest20=>(clear hK K;try simp only[PqL,Act.put])
        refine tkH 19 ?_;try simp only[PqL,Act.put]
        refine tkH 20 ?_;try simp only[PqL,Act.put]
        refine kRd 21 (fun K hK=>?_)
        go_simp
        refine hK.out _ _ ?hS25 (fun hHeld=>?rest25)
        case hS25=>exact kSn
        case' rest25=>(clear hK K;try simp only[PqL,Act.put])
        refine kRd 22 (fun K hK=>?_)
        go_simp
        refine hK.out _ _ ?hS28 (fun hHeld=>?rest28)
        case hS28=>exact kSn
        case' rest28=>(clear hK K;try simp only[PqL,Act.put])
        refine wpAnyH_done (by kernel_rfl) ?_ _;have hEnd:=hHeld.2
        repeat (clear hHeld)
        clear hEnd;go_wp2_with fail
        go_meet
        rw[HX2.out,HX4.out,HX3.out,HT16.out,HT4.out];exact⟨rfl,by first | exact Blk.new W 95 _ | exact Blk.new W.drew 95 _,kBl⟩
      · go_simp
        refine hK.out _ _ ?hS901 (fun hHeld=>?rest901)
        case hS901=>exact kSn
        case' rest901=>(clear hK K;try simp only[PqL,Act.put])
        refine kRd 18 (fun K hK=>?_)
        go_simp
        refine (HG4.out _ (by repeat (first | exact hs1 | exact hs1.drew | apply Sl.alloc | apply Sl.drew)) (by repeat (first | exact q0' | apply Blk.alloc | apply Blk.drew))).mono ?_;rintro e w3 ⟨rfl,rfl⟩;try dsimp only
        refine hK.out _ _ ?hS32 (fun hHeld=>?rest32)
        case hS32=>exact kSn
        case' rest32=>(clear hK K;try simp only[PqL,Act.put])
        refine tkH 19 ?_;try simp only[PqL,Act.put]
        refine tkH 20 ?_;try simp only[PqL,Act.put]
        refine kRd 22 (fun K hK=>?_)
        go_simp
        refine hK.out _ _ ?hS37 (fun hHeld=>?rest37)
        case hS37=>exact kSn
        case' rest37=>(clear hK K;try simp only[PqL,Act.put])
        refine wpAnyH_done (by kernel_rfl) ?_ _;have hEnd:=hHeld.2
        repeat (clear hHeld)
        clear hEnd;go_wp2_with fail
        go_meet
        rw[HX2.out,HX4.out,HX3.out,HT16.out,HT4.out];exact⟨rfl,by first | exact Blk.new W 95 _ | exact Blk.new W.drew 95 _,kBl⟩
    · go_simp
      refine hK.out _ _ ?hS902 (fun hHeld=>?rest902)
      case hS902=>exact kSn
      case' rest902=>(clear hK K;try simp only[PqL,Act.put])
      refine kRd 15 (fun K hK=>?_)
      go_simp
      refine (HG4.out _ (by repeat (first | exact hs1 | exact hs1.drew | apply Sl.alloc | apply Sl.drew)) (by repeat (first | exact q0' | apply Blk.alloc | apply Blk.drew))).mono ?_;rintro e w3 ⟨rfl,rfl⟩;try dsimp only
      refine hK.out _ _ ?hS41 (fun hHeld=>?rest41)
      case hS41=>exact kSn
      case' rest41=>(clear hK K;try simp only[PqL,Act.put])
      refine tkH 16 ?_;try simp only[PqL,Act.put]
      refine kRd 18 (fun K hK=>?_)
      go_simp
      refine (HG4.out _ (by repeat (first | exact hs1 | exact hs1.drew | apply Sl.alloc | apply Sl.drew)) (by repeat (first | exact q0' | apply Blk.alloc | apply Blk.drew))).mono ?_;rintro e w3 ⟨rfl,rfl⟩;try dsimp only
      refine hK.out _ _ ?hS45 (fun hHeld=>?rest45)
      case hS45=>exact kSn
      case' rest45=>(clear hK K;try simp only[PqL,Act.put])
      refine tkH 19 ?_;try simp only[PqL,Act.put]
      refine tkH 20 ?_;try simp only[PqL,Act.put]
      refine kRd 22 (fun K hK=>?_)
      go_simp
      refine hK.out _ _ ?hS50 (fun hHeld=>?rest50)
      case hS50=>exact kSn
      case' rest50=>(clear hK K;try simp only[PqL,Act.put])
      refine wpAnyH_done (by kernel_rfl) ?_ _;have hEnd:=hHeld.2
      repeat (clear hHeld)
      clear hEnd;go_wp2_with fail
      go_meet
      rw[HX2.out,HX4.out,HX3.out,HT16.out,HT4.out];exact⟨rfl,by first | exact Blk.new W 95 _ | exact Blk.new W.drew 95 _,kBl⟩
  · go_simp
    refine hK.out _ _ ?hS903 (fun hHeld=>?rest903)
    case hS903=>exact kSn
    case' rest903=>(clear hK K;try simp only[PqL,Act.put])
    refine kRd 2 (fun K hK=>?_)
    go_simp
    refine (HG1.out _ (by repeat (first | exact hs1 | exact hs1.drew | apply Sl.alloc | apply Sl.drew)) (by repeat (first | exact q0' | apply Blk.alloc | apply Blk.drew))).mono ?_;rintro e w3 ⟨rfl,rfl⟩;try dsimp only
    refine hK.out _ _ ?hS54 (fun hHeld=>?rest54)
    case hS54=>exact kSn
    case' rest54=>(clear hK K;try simp only[PqL,Act.put])
    refine tkH 3 ?_;try simp only[PqL,Act.put]
    refine kRd 15 (fun K hK=>?_)
    go_simp
    refine (HG4.out _ (by repeat (first | exact hs1 | exact hs1.drew | apply Sl.alloc | apply Sl.drew)) (by repeat (first | exact q0' | apply Blk.alloc | apply Blk.drew))).mono ?_;rintro e w3 ⟨rfl,rfl⟩;try dsimp only
    refine hK.out _ _ ?hS58 (fun hHeld=>?rest58)
    case hS58=>exact kSn
    case' rest58=>(clear hK K;try simp only[PqL,Act.put])
    refine tkH 16 ?_;try simp only[PqL,Act.put]
    refine kRd 18 (fun K hK=>?_)
    go_simp
    refine (HG4.out _ (by repeat (first | exact hs1 | exact hs1.drew | apply Sl.alloc | apply Sl.drew)) (by repeat (first | exact q0' | apply Blk.alloc | apply Blk.drew))).mono ?_;rintro e w3 ⟨rfl,rfl⟩;try dsimp only
    refine hK.out _ _ ?hS62 (fun hHeld=>?rest62)
    case hS62=>exact kSn
    case' rest62=>(clear hK K;try simp only[PqL,Act.put])
    refine tkH 19 ?_;try simp only[PqL,Act.put]
    refine tkH 20 ?_;try simp only[PqL,Act.put]
    refine kRd 22 (fun K hK=>?_)
    go_simp
    refine hK.out _ _ ?hS67 (fun hHeld=>?rest67)
    case hS67=>exact kSn
    case' rest67=>(clear hK K;try simp only[PqL,Act.put])
    refine wpAnyH_done (by kernel_rfl) ?_ _;have hEnd:=hHeld.2
    repeat (clear hHeld)
    clear hEnd;go_wp2_with fail
    go_meet
    rw[HX2.out,HX4.out,HX3.out,HT16.out,HT4.out];exact⟨rfl,by first | exact Blk.new W 95 _ | exact Blk.new W.drew 95 _,kBl⟩
 case rest=>
  obtain⟨rfl,qm,hbx⟩:=hcut;simp only[msV] at qm;have q0W:=q0';have q1W:=q1';have hsW:=hs1;have hbwW:=hbw;replace q0':=q0'.below hbx hsz0;replace q1':=q1'.below hbx hsz;replace q0:=(zc6 hbx).1 _ lgb1 |>.trans q0
  replace hbw:=zc4 hbx hbw;have hzx:=qm.lt;clear q0'_c0 q0'_f;have e1:(bits .and .u8 (b0.toNat:Int) 1 != 0)=decide (b0.toNat % 2=1):=(zfj b0.toNat 1 hb0 (by omega)).trans (zcv _ hb0).2.2.1;have e2:(bits .and .u8 (b0.toNat:Int) 2 != 0)=decide (b0.toNat / 2 % 2=1):=(zfj b0.toNat 2 hb0 (by omega)).trans (zcv _ hb0).2.2.2.1;have e3:(bits .and .u8 (b0.toNat:Int) 128 != 0)=decide (128≤b0.toNat):=(zfj b0.toNat 128 hb0 (by omega)).trans (zcv _ hb0).2.2.2.2.1;have r1:=(hsW.below hbx).byte_ (j:=1) (by simp);obtain⟨gb1,go1,z1,r1⟩:=r1;injection z1 with z1
  injection z1 with z1 z1'
  subst z1 z1';have hb1:=b1.toNat_lt;have r2:=(hsW.below hbx).byte_ (j:=2) (by simp);obtain⟨gb2,go2,z2,r2⟩:=r2;injection z2 with z2
  injection z2 with z2 z2'
  subst z2 z2';have hb2:=b2.toNat_lt;have r4:=(hsW.below hbx).byte_ (j:=4) (by simp);obtain⟨gb4,go4,z4,r4⟩:=r4;injection z4 with z4
  injection z4 with z4 z4'
  subst z4 z4';have hb4:=b4.toNat_lt;simp only[List.getElem_cons_zero,List.getElem_cons_succ] at r1 r2 r4;rcases HGG.out with rfl | rfl | rfl
  · by_cases h2:b0.toNat / 2 % 2=1
    case pos=>
     have hG:=zfq k b0 b1 b2 b3 b4 b5 b6 b7 HF.out h2
     skip
     rw[decide_eq_true h2] at e2;clear h2;have q0'_c0:=q0'.cell 0 rfl;have q0'_f:=q0'.frozen;obtain⟨aP,aQ,aR,aS,aT,aU,aV,aW,aX,aY,aG,aH,aI,aJ⟩:=zde qm;have aZ:=qm.frozen;go_wp2_with fail
     rw[zfk b0];refine (ze0 (some ⟨gb,go,none⟩) 8 c [b0,b1,b2,b3,b4,b5,b6,b7] 4 _ _ rfl hc (by omega) (by simp;try omega) (by exact hsW.below (by repeat (first | exact hbx | refine zds (Nat.le_refl _) ?_)))).mono ?_;rintro e w5 ⟨A5,n5,c5,rfl,hO5,hb5⟩;have hbx5:Below W.heap.size W w5:=by refine zc4 hb5 ?_;repeat (first | exact hbx | refine zds (Nat.le_refl _) ?_ | refine zdr ?_)
     have hB1:W.heap.size < (wc.setCell ⟨W.heap.size,6,none⟩ (.bool (decide (b0.toNat % 2=1)))).heap.size:=by simpa using hzx
     replace qm:=(qm.set_ 6 _).below hb5 (by simpa using hzx);generalize (wc.setCell ⟨W.heap.size,6,none⟩ (.bool (decide (b0.toNat % 2=1)))).heap.size=B1 at hO5 hB1;clear aP aQ aR aS aT aU aV aW aX aY aG aH aI aJ aZ;simp only[List.setIfInBounds_toArray,List.set_cons_zero,List.set_cons_succ] at qm;obtain⟨aP,aQ,aR,aS,aT,aU,aV,aW,aX,aY,aG,aH,aI,aJ⟩:=zde qm;have aZ:=qm.frozen;go_wp2_with fail
     refine (ze8 ⟨k,(leN [b1,b2]:Nat),(b3.toNat:Nat),decide (b0.toNat / 16 % 2=1),false,decide (b0.toNat / 4 % 2=1),decide (b0.toNat % 2=1),leN [b4,b5,b6,b7],leN [b4,b5,b6,b7],([b0,b1,b2,b3,b4,b5,b6,b7].drop 4).take (4 - b0.toNat / 4 % 4),0,0,0,0⟩ A5 n5 c5 _ hO5.hn).mono ?_;rintro e w6 ⟨rfl,hb6⟩;have hbx6:Below W.heap.size W w6:=by refine zc4 hb6 ?_;repeat (first | exact hbx5 | refine zds (Nat.le_refl _) ?_ | refine zdr ?_)
     have q1x:=q1W.below hbx6 hsz;obtain⟨N,hN⟩:∃N,N=guessM k [b0,b1,b2,b3,b4,b5,b6,b7]:=⟨_,rfl⟩;have hd:N.data=([b0,b1,b2,b3,b4,b5,b6,b7].drop 4).take (4 - b0.toNat / 4 % 4):=by rw[hN,hG];rfl
     have hO6:zdv w6 B1 A5 n5 c5 N.data:=by
      rw[hd];refine zdv.below ?_ hb6
      repeat (first | exact hO5 | refine zdv.set_ ?_ (p:=⟨W.heap.size,_,none⟩) (by simpa using hB1) _)
     have hB2:w.heap.size+1 < B1:=by omega
     rw[←hG,←hN];rw[show dataB 2=true from rfl];have hb7:=zc4 hbx6 hbwW;have HN:=zak hN;have HD:=zak hd;clear hN hd hG;clear aP aQ aR aS aT aU aV aW aX aY aG aH aI aJ aZ;obtain⟨bh,bi,bj,bm,bn,bo,bp,br,bs,bt,bc,bd,bf,bg⟩:=zde q1x;have bJ:=q1x.frozen;obtain⟨kind,ix,sub,tg,la,cr,sz,size,code,data,sq,bl,em,sum⟩:=N;simp only[msV,if_true,if_false,Bool.false_eq_true,ite_self];go_wp2_with fail
     refine bodyPost_ret (v:= .agg #[.int .i64 kind,.int .i64 ix,.int .i64 sub,.bool tg,.bool la,.bool cr,.bool sz,.int .u32 (size:Nat),.int .u32 (code:Nat),.slice A5 n5 c5,.int .i64 sq,.int .i64 bl,.int .i64 em,.int .u16 (sum:Nat)]) (by simp[results,Tryz.results224,go_sem,bh,bi,bj,bm,bn,bo,bp,br,bs,bt,bc,bd,bf,bg,bJ]) rfl ?_;exact⟨A5,n5,c5,by rw[←HN.out];rfl,by rw[←HN.out];exact (zfm hO6 hB2 _ _ _ _ _ _ _ _ _ _ _ _ _ _).mono (by omega),kBl⟩
    case neg=>
     have hG:=zfr k b0 b1 b2 b3 b4 b5 b6 b7 HF.out h2
     skip
     rw[decide_eq_false h2] at e2;clear h2;have q0'_c0:=q0'.cell 0 rfl;have q0'_f:=q0'.frozen;obtain⟨aP,aQ,aR,aS,aT,aU,aV,aW,aX,aY,aG,aH,aI,aJ⟩:=zde qm;have aZ:=qm.frozen;go_wp2_with fail
     refine (ze8 ⟨k,(leN [b1,b2]:Nat),(b3.toNat:Nat),decide (b0.toNat / 16 % 2=1),false,decide (b0.toNat / 4 % 2=1),decide (b0.toNat % 2=1),leN [b4,b5,b6,b7],leN [b4,b5,b6,b7],[],0,0,0,0⟩ none 0 0 _ rfl).mono ?_;rintro e w6 ⟨rfl,hb6⟩;have hbx6:Below W.heap.size W w6:=by refine zc4 hb6 ?_;repeat (first | exact hbx | refine zds (Nat.le_refl _) ?_ | refine zdr ?_)
     have q1x:=q1W.below hbx6 hsz;obtain⟨N,hN⟩:∃N,N=guessM k [b0,b1,b2,b3,b4,b5,b6,b7]:=⟨_,rfl⟩;have hd:N.data= []:=by rw[hN,hG];rfl
     rw[←hG,←hN];rw[show dataB 2=true from rfl];have hb7:=zc4 hbx6 hbwW;have HN:=zak hN;have HD:=zak hd;clear hN hd hG;clear aP aQ aR aS aT aU aV aW aX aY aG aH aI aJ aZ;obtain⟨bh,bi,bj,bm,bn,bo,bp,br,bs,bt,bc,bd,bf,bg⟩:=zde q1x;have bJ:=q1x.frozen;obtain⟨kind,ix,sub,tg,la,cr,sz,size,code,data,sq,bl,em,sum⟩:=N;simp only[msV,if_true,if_false,Bool.false_eq_true,ite_self];go_wp2_with fail
     refine bodyPost_ret (v:= .agg #[.int .i64 kind,.int .i64 ix,.int .i64 sub,.bool tg,.bool la,.bool cr,.bool sz,.int .u32 (size:Nat),.int .u32 (code:Nat),.slice none 0 0,.int .i64 sq,.int .i64 bl,.int .i64 em,.int .u16 (sum:Nat)]) (by simp[results,Tryz.results224,go_sem,bh,bi,bj,bm,bn,bo,bp,br,bs,bt,bc,bd,bf,bg,bJ]) rfl ?_;exact⟨none,0,0,by rw[←HN.out];rfl,by rw[←HN.out,HD.out];exact zdv.nil _ _,kBl⟩
  · skip
    have hG:=zfs k b0 b1 b2 b3 b4 b5 b6 b7 HF.out
    skip
    have q0'_c0:=q0'.cell 0 rfl;have q0'_f:=q0'.frozen;obtain⟨aP,aQ,aR,aS,aT,aU,aV,aW,aX,aY,aG,aH,aI,aJ⟩:=zde qm;have aZ:=qm.frozen;go_wp2_with fail
    rw[zfl b0];refine (ze0 (some ⟨gb,go,none⟩) 8 c [b0,b1,b2,b3,b4,b5,b6,b7] 1 _ _ rfl hc (by omega) (by simp;try omega) (by exact hsW.below (by repeat (first | exact hbx | refine zds (Nat.le_refl _) ?_)))).mono ?_;rintro e w5 ⟨A5,n5,c5,rfl,hO5,hb5⟩;have hbx5:Below W.heap.size W w5:=by refine zc4 hb5 ?_;repeat (first | exact hbx | refine zds (Nat.le_refl _) ?_ | refine zdr ?_)
    have hB1:W.heap.size < (wc.setCell ⟨W.heap.size,4,none⟩ (.bool (decide (b0.toNat % 2=1)))).heap.size:=by simpa using hzx
    replace qm:=(qm.set_ 4 _).below hb5 (by simpa using hzx);generalize (wc.setCell ⟨W.heap.size,4,none⟩ (.bool (decide (b0.toNat % 2=1)))).heap.size=B1 at hO5 hB1;clear aP aQ aR aS aT aU aV aW aX aY aG aH aI aJ aZ;simp only[List.setIfInBounds_toArray,List.set_cons_zero,List.set_cons_succ] at qm;obtain⟨aP,aQ,aR,aS,aT,aU,aV,aW,aX,aY,aG,aH,aI,aJ⟩:=zde qm;have aZ:=qm.frozen;go_wp2_with fail
    refine (ze9 ⟨k,(leN [b1,b2]:Nat),(b3.toNat:Nat),decide (b0.toNat / 16 % 2=1),decide (b0.toNat % 2=1),decide (b0.toNat / 4 % 2=1),false,leN [b4,b5,b6,b7],leN [b4,b5,b6,b7],([b0,b1,b2,b3,b4,b5,b6,b7].drop 1).take (7 - b0.toNat / 2 % 8),0,0,0,0⟩ A5 n5 c5 _ hO5.hn).mono ?_;rintro e w6 ⟨rfl,hb6⟩;have hbx6:Below W.heap.size W w6:=by refine zc4 hb6 ?_;repeat (first | exact hbx5 | refine zds (Nat.le_refl _) ?_ | refine zdr ?_)
    have q1x:=q1W.below hbx6 hsz;obtain⟨N,hN⟩:∃N,N=guessM k [b0,b1,b2,b3,b4,b5,b6,b7]:=⟨_,rfl⟩;have hd:N.data=([b0,b1,b2,b3,b4,b5,b6,b7].drop 1).take (7 - b0.toNat / 2 % 8):=by rw[hN,hG];rfl
    have hO6:zdv w6 B1 A5 n5 c5 N.data:=by
     rw[hd];refine zdv.below ?_ hb6
     repeat (first | exact hO5 | refine zdv.set_ ?_ (p:=⟨W.heap.size,_,none⟩) (by simpa using hB1) _)
    have hB2:w.heap.size+1 < B1:=by omega
    rw[←hG,←hN];rw[show dataB 3=true from rfl];have hb7:=zc4 hbx6 hbwW;have HN:=zak hN;have HD:=zak hd;clear hN hd hG;clear aP aQ aR aS aT aU aV aW aX aY aG aH aI aJ aZ;obtain⟨bh,bi,bj,bm,bn,bo,bp,br,bs,bt,bc,bd,bf,bg⟩:=zde q1x;have bJ:=q1x.frozen;obtain⟨kind,ix,sub,tg,la,cr,sz,size,code,data,sq,bl,em,sum⟩:=N;simp only[msV,if_true,if_false,Bool.false_eq_true,ite_self];go_wp2_with fail
    refine bodyPost_ret (v:= .agg #[.int .i64 kind,.int .i64 ix,.int .i64 sub,.bool tg,.bool la,.bool cr,.bool sz,.int .u32 (size:Nat),.int .u32 (code:Nat),.slice A5 n5 c5,.int .i64 sq,.int .i64 bl,.int .i64 em,.int .u16 (sum:Nat)]) (by simp[results,Tryz.results224,go_sem,bh,bi,bj,bm,bn,bo,bp,br,bs,bt,bc,bd,bf,bg,bJ]) rfl ?_;exact⟨A5,n5,c5,by rw[←HN.out];rfl,by rw[←HN.out];exact (zfm hO6 hB2 _ _ _ _ _ _ _ _ _ _ _ _ _ _).mono (by omega),kBl⟩
  · skip
    have hG:=zfv k b0 b1 b2 b3 b4 b5 b6 b7 HF.out;clear e1;have q0'_c0:=q0'.cell 0 rfl;have q0'_f:=q0'.frozen;obtain⟨aP,aQ,aR,aS,aT,aU,aV,aW,aX,aY,aG,aH,aI,aJ⟩:=zde qm;have aZ:=qm.frozen;go_wp2_with fail
    refine (zfc ⟨k,(leN [b1,b2]:Nat),(b3.toNat:Nat),decide (b0.toNat / 16 % 2=1),false,decide (b0.toNat / 4 % 2=1),decide (b0.toNat / 2 % 2=1),leN [b4,b5,b6,b7],leN [b4,b5,b6,b7],[],0,0,0,0⟩ none 0 0 _ rfl).mono ?_;rintro e w6 ⟨rfl,hb6⟩;have hbx6:Below W.heap.size W w6:=by refine zc4 hb6 ?_;repeat (first | exact hbx | refine zds (Nat.le_refl _) ?_ | refine zdr ?_)
    have q1x:=q1W.below hbx6 hsz;obtain⟨N,hN⟩:∃N,N=guessM k [b0,b1,b2,b3,b4,b5,b6,b7]:=⟨_,rfl⟩;have hd:N.data= []:=by rw[hN,hG];rfl
    rw[←hG,←hN];rw[show dataB 6=false from rfl];have hb7:=zc4 hbx6 hbwW;have HN:=zak hN;have HD:=zak hd;clear hN hd hG;clear aP aQ aR aS aT aU aV aW aX aY aG aH aI aJ aZ;obtain⟨bh,bi,bj,bm,bn,bo,bp,br,bs,bt,bc,bd,bf,bg⟩:=zde q1x;have bJ:=q1x.frozen;obtain⟨kind,ix,sub,tg,la,cr,sz,size,code,data,sq,bl,em,sum⟩:=N;simp only[msV,if_true,if_false,Bool.false_eq_true,ite_self];go_wp2_with fail
    refine bodyPost_ret (v:= .agg #[.int .i64 kind,.int .i64 ix,.int .i64 sub,.bool tg,.bool la,.bool cr,.bool sz,.int .u32 (size:Nat),.int .u32 (code:Nat),.slice none 0 0,.int .i64 sq,.int .i64 bl,.int .i64 em,.int .u16 (sum:Nat)]) (by simp[results,Tryz.results224,go_sem,bh,bi,bj,bm,bn,bo,bp,br,bs,bt,bc,bd,bf,bg,bJ]) rfl ?_;exact⟨none,0,0,by rw[←HN.out];rfl,by rw[←HN.out,HD.out];exact zdv.nil _ _,kBl⟩
end
end Go.Proofs.YtkkpjbjmhaecjaaGreat
