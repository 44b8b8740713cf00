/- None -/
import Derived.Test.YtkkpjbjmhaecjaaGreatT07
import Derived.Deep.QuietTactic
import Derived.BigQuiet
namespace Go.Proofs.YtkkpjbjmhaecjaaGreat
set_option linter.all false
set_option maxRecDepth 100000
set_option maxHeartbeats 4000000
section
open Go.RowKit
theorem zf3 (k:Int)(A:Option Addr)(n c:Nat)(b:List UInt8)(w:World)(hn:n=b.length)(h8:b.length=8)(hc:n≤c)(hs:Sl w A (b.map bv))(f:Int)(hf:formI k=f)(hg:f=7∨f=8∨f=9∨f=11) :
 Calls Tryz.prog 224 #[.int .i64 k,.slice A n c] w (GuessR k b w):=by
 obtain rfl:n=8:=by omega
 obtain⟨b0,b1,b2,b3,b4,b5,b6,b7,rfl⟩:∃b0 b1 b2 b3 b4 b5 b6 b7:UInt8,b= [b0,b1,b2,b3,b4,b5,b6,b7]:=by
  rcases b with _ | ⟨b0,_ | ⟨b1,_ | ⟨b2,_ | ⟨b3,_ | ⟨b4,_ | ⟨b5,_ | ⟨b6,_ | ⟨b7,r⟩⟩⟩⟩⟩⟩⟩⟩<;> simp at h8 ⊢
  exact h8
 have q1:=hs.byte_ (j:=0) (by simp);obtain⟨gb,go,rfl,q0⟩:=q1;have r3:=hs.byte_ (j:=3) (by simp);obtain⟨gb',go',e3,r3⟩:=r3;injection e3 with e3
 injection e3 with e3 e4
 subst e3 e4;simp only[List.getElem_cons_zero,List.getElem_cons_succ,Nat.add_zero] at q0 r3;have lgb:=zal q0;have HF:=zak hf;have HG1:=zak (fun W h=>ze1 (some ⟨gb,go,none⟩) 8 c [b0,b1,b2,b3,b4,b5,b6,b7] 1 2 w.heap.size W hn hc (by omega) (by omega) (by omega) (by omega) (by omega) h);have HG4:=zak (fun W h=>ze1 (some ⟨gb,go,none⟩) 8 c [b0,b1,b2,b3,b4,b5,b6,b7] 4 4 w.heap.size W hn hc (by omega) (by omega) (by omega) (by omega) (by omega) h);have hb0:=b0.toNat_lt;have hb3:=b3.toNat_lt;have HX2:Hid (IntKind.i64.wrap ((leN [b1,b2]:Nat):Int)=((leN [b1,b2]:Nat):Int)):=zak (zfn (by have:=zan [b1,b2];simp only[List.length_cons,List.length_nil] at this;omega)).1
 have HX4:Hid (IntKind.u32.wrap ((leN [b4,b5,b6,b7]:Nat):Int)=((leN [b4,b5,b6,b7]:Nat):Int)):=zak (zfn (by have:=zan [b4,b5,b6,b7];simp only[List.length_cons,List.length_nil] at this;omega)).2.1;have HX3:Hid (IntKind.i64.wrap (b3.toNat:Int)=(b3.toNat:Int)):=zak (zfn (by omega)).1;have HT16:Hid ((bits .and .u8 (b0.toNat:Int) 16 != 0)=decide (b0.toNat / 16 % 2=1)):=zak ((zfj b0.toNat 16 hb0 (by omega)).trans (zcv _ hb0).1);have HT4:Hid ((bits .and .u8 (b0.toNat:Int) 4 != 0)=decide (b0.toNat / 4 % 2=1)):=zak ((zfj b0.toNat 4 hb0 (by omega)).trans (zcv _ hb0).2.1);have HGG:=zak hg;clear hn h8 hf hg
 go_enter Tryz.func224,Tryz.ntmps224
 go_wp2_with fail
 refine (ze3 k _).mono ?_;rintro e w1 ⟨rfl,rfl⟩;rw[HF.out];go_upto_region 4 with fail
 obtain⟨q0',q1'⟩:=zdh w 27 95 #[.slice (some ⟨gb,go,none⟩) 8 c] (msV msZ none 0 0);have hbw:Below w.heap.size w ((w.alloc (.cells #[.slice (some ⟨gb,go,none⟩) 8 c] 27)).alloc (.cells (msV msZ none 0 0) 95)):=kBl;have hs1:Sl ((w.alloc (.cells #[.slice (some ⟨gb,go,none⟩) 8 c] 27)).alloc (.cells (msV msZ none 0 0) 95)) _ _:=(hs.alloc _).alloc _;have hsz:w.heap.size+1 < ((w.alloc (.cells #[.slice (some ⟨gb,go,none⟩) 8 c] 27)).alloc (.cells (msV msZ none 0 0) 95)).heap.size:=by simp
 simp only[msV,msZ] at q0' q1' hbw hs1 hsz;replace q0:=(zc6 hbw).1 _ lgb |>.trans q0
 replace r3:=(zc6 hbw).1 ⟨gb,go+3,none⟩ lgb |>.trans r3
 generalize (w.alloc (.cells #[.slice (some ⟨gb,go,none⟩) 8 c] 27)).alloc _=W at *
 have hsz0:w.heap.size < W.heap.size:=by omega
 have lgb1:gb < W.heap.size:=by omega
 have q0'_c0:=q0'.cell 0 rfl;have q0'_f:=q0'.frozen;go_cut [9] (fun p wx=>GuessC k b0 b1 b2 b3 b4 b5 b6 b7 W p wx)
 case first=>
  go_wp2_with fail
  refine wp_region_held_drew (S:=(fun w'=>(∀qA:Addr,qA.block < (W).heap.size→w'.cell? qA=(W).cell? qA)∧ Below (W).heap.size (W) w')) (by kernel_rfl) ?hS1 (fun hHeld=>?rest1)
  case hS1=>exact kSn
  case' rest1=>skip
  iterate 2 (refine tkN ?_;try simp only[PqL,Act.put])
  refine tkH 4 ?_;try simp only[PqL,Act.put]
  refine tkH 5 ?_;try simp only[PqL,Act.put]
  refine tkH 6 ?_;try simp only[PqL,Act.put]
  refine tkH 7 ?_;try simp only[PqL,Act.put]
  refine tkH 8 ?_;try simp only[PqL,Act.put]
  refine tkH 9 ?_;try simp only[PqL,Act.put]
  refine tkH 10 ?_;try simp only[PqL,Act.put]
  refine tkH 11 ?_;try simp only[PqL,Act.put]
  refine tkH 12 ?_;try simp only[PqL,Act.put]
  refine tkH 13 ?_;try simp only[PqL,Act.put]
  refine tkH 14 ?_;try simp only[PqL,Act.put]
  refine tkH 17 ?_;try simp only[PqL,Act.put]
  refine wpAnyH_ready (rs:=[2,21]) (by kernel_rfl) (by simp) ?_;refine AllReadyH.cons (o:=_) rfl (fun K hK=>?_) (AllReadyH.cons (o:=_) rfl (fun K hK=>?_) .nil)
  · go_simp
    refine (HG1.out _ (by repeat (first | exact hs1 | exact hs1.drew | apply Sl.drew)) (by repeat (first | exact q0' | apply Blk.drew))).mono ?_;rintro e w3 ⟨rfl,rfl⟩;try dsimp only
    refine hK.out _ _ ?hS16 (fun hHeld=>?rest16)
    case hS16=>exact kSn
    case' rest16=>(clear hK K;try simp only[PqL,Act.put])
    refine tkH 3 ?_;try simp only[PqL,Act.put]
    refine wpAnyH_ready (rs:=[15,21]) (by kernel_rfl) (by simp) ?_;refine AllReadyH.cons (o:=_) rfl (fun K hK=>?_) (AllReadyH.cons (o:=_) rfl (fun K hK=>?_) .nil)
    · go_simp
      refine (HG4.out _ (by repeat (first | exact hs1 | exact hs1.drew | apply Sl.drew)) (by repeat (first | exact q0' | apply Blk.drew))).mono ?_;rintro e w3 ⟨rfl,rfl⟩;try dsimp only
      refine hK.out _ _ ?hS18 (fun hHeld=>?rest18)
      case hS18=>exact kSn
      case' rest18=>(clear hK K;try simp only[PqL,Act.put])
      refine tkH 16 ?_;try simp only[PqL,Act.put]
      refine wpAnyH_ready (rs:=[18,21]) (by kernel_rfl) (by simp) ?_;refine AllReadyH.cons (o:=_) rfl (fun K hK=>?_) (AllReadyH.cons (o:=_) rfl (fun K hK=>?_) .nil)
      · go_simp
        refine (HG4.out _ (by repeat (first | exact hs1 | exact hs1.drew | apply Sl.drew)) (by repeat (first | exact q0' | apply Blk.drew))).mono ?_;rintro e w3 ⟨rfl,rfl⟩;try dsimp only
        refine hK.out _ _ ?hS20 (fun hHeld=>?rest20)
        case hS20=>exact kSn
        case' rest20=>(clear hK K;try simp only[PqL,Act.put])
        refine tkH 19 ?_;try simp only[PqL,Act.put]
        refine tkH 20 ?_;try simp only[PqL,Act.put]
        refine kRd 21 (fun K hK=>?_)
        go_simp
        refine hK.out _ _ ?hS25 (fun hHeld=>?rest25)
        case hS25=>exact kSn
        case' rest25=>(clear hK K;try simp only[PqL,Act.put])
        refine kRd 22 (fun K hK=>?_)
        go_simp
        refine hK.out _ _ ?hS28 (fun hHeld=>?rest28)
        case hS28=>exact kSn
        case' rest28=>(clear hK K;try simp only[PqL,Act.put])
        refine wpAnyH_done (by kernel_rfl) ?_ _;have hEnd:=hHeld.2
        repeat (clear hHeld)
        clear hEnd;go_wp2_with fail
        go_meet
        rw[HX2.out,HX4.out,HX3.out,HT16.out,HT4.out];exact⟨rfl,by first | exact Blk.new W 95 _ | exact Blk.new W.drew 95 _,kBl⟩
      · go_simp
        refine hK.out _ _ ?hS901 (fun hHeld=>?rest901)
        case hS901=>exact kSn
        case' rest901=>(clear hK K;try simp only[PqL,Act.put])
        refine kRd 18 (fun K hK=>?_)
        go_simp
        refine (HG4.out _ (by repeat (first | exact hs1 | exact hs1.drew | apply Sl.alloc | apply Sl.drew)) (by repeat (first | exact q0' | apply Blk.alloc | apply Blk.drew))).mono ?_;rintro e w3 ⟨rfl,rfl⟩;try dsimp only
        refine hK.out _ _ ?hS32 (fun hHeld=>?rest32)
        case hS32=>exact kSn
        case' rest32=>(clear hK K;try simp only[PqL,Act.put])
        refine tkH 19 ?_;try simp only[PqL,Act.put]
        refine tkH 20 ?_;try simp only[PqL,Act.put]
        refine kRd 22 (fun K hK=>?_)
        go_simp
        refine hK.out _ _ ?hS37 (fun hHeld=>?rest37)
        case hS37=>exact kSn
        case' rest37=>(clear hK K;try simp only[PqL,Act.put])
        refine wpAnyH_done (by kernel_rfl) ?_ _;have hEnd:=hHeld.2
        repeat (clear hHeld)
        clear hEnd;go_wp2_with fail
        go_meet
        rw[HX2.out,HX4.out,HX3.out,HT16.out,HT4.out];exact⟨rfl,by first | exact Blk.new W 95 _ | exact Blk.new W.drew 95 _,kBl⟩
    · go_simp
      refine hK.out _ _ ?hS902 (fun hHeld=>?rest902)
      case hS902=>exact kSn
      case' rest902=>(clear hK K;try simp only[PqL,Act.put])
      refine kRd 15 (fun K hK=>?_)
      go_simp
      refine (HG4.out _ (by repeat (first | exact hs1 | exact hs1.drew | apply Sl.alloc | apply Sl.drew)) (by repeat (first | exact q0' | apply Blk.alloc | apply Blk.drew))).mono ?_;rintro e w3 ⟨rfl,rfl⟩;try dsimp only
      refine hK.out _ _ ?hS41 (fun hHeld=>?rest41)
      case hS41=>exact kSn
      case' rest41=>(clear hK K;try simp only[PqL,Act.put])
      refine tkH 16 ?_;try simp only[PqL,Act.put]
      refine kRd 18 (fun K hK=>?_)
      go_simp
      refine (HG4.out _ (by repeat (first | exact hs1 | exact hs1.drew | apply Sl.alloc | apply Sl.drew)) (by repeat (first | exact q0' | apply Blk.alloc | apply Blk.drew))).mono ?_;rintro e w3 ⟨rfl,rfl⟩;try dsimp only
      refine hK.out _ _ ?hS45 (fun hHeld=>?rest45)
      case hS45=>exact kSn
      case' rest45=>(clear hK K;try simp only[PqL,Act.put])
      refine tkH 19 ?_;try simp only[PqL,Act.put]
      refine tkH 20 ?_;try simp only[PqL,Act.put]
      refine kRd 22 (fun K hK=>?_)
      go_simp
      refine hK.out _ _ ?hS50 (fun hHeld=>?rest50)
      case hS50=>exact kSn
      case' rest50=>(clear hK K;try simp only[PqL,Act.put])
      refine wpAnyH_done (by kernel_rfl) ?_ _;have hEnd:=hHeld.2
      repeat (clear hHeld)
      clear hEnd;go_wp2_with fail
      go_meet
      rw[HX2.out,HX4.out,HX3.out,HT16.out,HT4.out];exact⟨rfl,by first | exact Blk.new W 95 _ | exact Blk.new W.drew 95 _,kBl⟩
  · go_simp
    refine hK.out _ _ ?hS903 (fun hHeld=>?rest903)
    case hS903=>exact kSn
    case' rest903=>(clear hK K;try simp only[PqL,Act.put])
    refine kRd 2 (fun K hK=>?_)
    go_simp
    refine (HG1.out _ (by repeat (first | exact hs1 | exact hs1.drew | apply Sl.alloc | apply Sl.drew)) (by repeat (first | exact q0' | apply Blk.alloc | apply Blk.drew))).mono ?_;rintro e w3 ⟨rfl,rfl⟩;try dsimp only
    refine hK.out _ _ ?hS54 (fun hHeld=>?rest54)
    case hS54=>exact kSn
    case' rest54=>(clear hK K;try simp only[PqL,Act.put])
    refine tkH 3 ?_;try simp only[PqL,Act.put]
    refine kRd 15 (fun K hK=>?_)
    go_simp
    refine (HG4.out _ (by repeat (first | exact hs1 | exact hs1.drew | apply Sl.alloc | apply Sl.drew)) (by repeat (first | exact q0' | apply Blk.alloc | apply Blk.drew))).mono ?_;rintro e w3 ⟨rfl,rfl⟩;try dsimp only
    refine hK.out _ _ ?hS58 (fun hHeld=>?rest58)
    case hS58=>exact kSn
    case' rest58=>(clear hK K;try simp only[PqL,Act.put])
    refine tkH 16 ?_;try simp only[PqL,Act.put]
    refine kRd 18 (fun K hK=>?_)
    go_simp
    refine (HG4.out _ (by repeat (first | exact hs1 | exact hs1.drew | apply Sl.alloc | apply Sl.drew)) (by repeat (first | exact q0' | apply Blk.alloc | apply Blk.drew))).mono ?_;rintro e w3 ⟨rfl,rfl⟩;try dsimp only
    refine hK.out _ _ ?hS62 (fun hHeld=>?rest62)
    case hS62=>exact kSn
    case' rest62=>(clear hK K;try simp only[PqL,Act.put])
    refine tkH 19 ?_;try simp only[PqL,Act.put]
    refine tkH 20 ?_;try simp only[PqL,Act.put]
    refine kRd 22 (fun K hK=>?_)
    go_simp
    refine hK.out _ _ ?hS67 (fun hHeld=>?rest67)
    case hS67=>exact kSn
    case' rest67=>(clear hK K;try simp only[PqL,Act.put])
    refine wpAnyH_done (by kernel_rfl) ?_ _;have hEnd:=hHeld.2
    repeat (clear hHeld)
    clear hEnd;go_wp2_with fail
    go_meet
    rw[HX2.out,HX4.out,HX3.out,HT16.out,HT4.out];exact⟨rfl,by first | exact Blk.new W 95 _ | exact Blk.new W.drew 95 _,kBl⟩
 case rest=>
  obtain⟨rfl,qm,hbx⟩:=hcut;simp only[msV] at qm;have q0W:=q0';have q1W:=q1';have hsW:=hs1;have hbwW:=hbw;replace q0':=q0'.below hbx hsz0;replace q1':=q1'.below hbx hsz;replace q0:=(zc6 hbx).1 _ lgb1 |>.trans q0
  replace hbw:=zc4 hbx hbw;have hzx:=qm.lt;clear q0'_c0 q0'_f;have e1:(bits .and .u8 (b0.toNat:Int) 1 != 0)=decide (b0.toNat % 2=1):=(zfj b0.toNat 1 hb0 (by omega)).trans (zcv _ hb0).2.2.1;have e2:(bits .and .u8 (b0.toNat:Int) 2 != 0)=decide (b0.toNat / 2 % 2=1):=(zfj b0.toNat 2 hb0 (by omega)).trans (zcv _ hb0).2.2.2.1;have e3:(bits .and .u8 (b0.toNat:Int) 128 != 0)=decide (128≤b0.toNat):=(zfj b0.toNat 128 hb0 (by omega)).trans (zcv _ hb0).2.2.2.2.1;have r1:=(hsW.below hbx).byte_ (j:=1) (by simp);obtain⟨gb1,go1,z1,r1⟩:=r1;injection z1 with z1
  injection z1 with z1 z1'
  subst z1 z1';have hb1:=b1.toNat_lt;have r2:=(hsW.below hbx).byte_ (j:=2) (by simp);obtain⟨gb2,go2,z2,r2⟩:=r2;injection z2 with z2
  injection z2 with z2 z2'
  subst z2 z2';have hb2:=b2.toNat_lt;have r4:=(hsW.below hbx).byte_ (j:=4) (by simp);obtain⟨gb4,go4,z4,r4⟩:=r4;injection z4 with z4
  injection z4 with z4 z4'
  subst z4 z4';have hb4:=b4.toNat_lt;simp only[List.getElem_cons_zero,List.getElem_cons_succ] at r1 r2 r4;rcases HGG.out with rfl | rfl | rfl | rfl
  · skip
    have hG:=zfw k b0 b1 b2 b3 b4 b5 b6 b7 HF.out;clear e1;have q0'_c0:=q0'.cell 0 rfl;have q0'_f:=q0'.frozen;obtain⟨aP,aQ,aR,aS,aT,aU,aV,aW,aX,aY,aG,aH,aI,aJ⟩:=zde qm;have aZ:=qm.frozen;go_wp2_with fail
    refine (HG1.out _ (hsW.below hbx) q0').mono ?_;rintro e w5 ⟨rfl,rfl⟩;simp only[show List.take (Int.toNat 2) (List.drop (Int.toNat 1) [b0,b1,b2,b3,b4,b5,b6,b7])= [b1,b2] from rfl];have y16:IntKind.u16.wrap ((leN [b1,b2]:Nat):Int)=((leN [b1,b2]:Nat):Int):=by have:=zan [b1,b2];simp only[List.length_cons,List.length_nil] at this;rw[IntKind.wrap_u16];omega
    go_wp2_with fail
    refine (zfd ⟨k,(leN [b1,b2]:Nat),(b3.toNat:Nat),decide (b0.toNat / 16 % 2=1),false,decide (b0.toNat / 4 % 2=1),false,leN [b4,b5,b6,b7],leN [b4,b5,b6,b7],[],0,0,((b0.toNat:Int) / 4 % 8),leN [b1,b2]⟩ none 0 0 _ rfl).mono ?_;rintro e w6 ⟨rfl,hb6⟩;have hbx6:Below W.heap.size W w6:=by refine zc4 hb6 ?_;repeat (first | exact hbx | refine zds (Nat.le_refl _) ?_ | refine zdr ?_)
    have q1x:=q1W.below hbx6 hsz;obtain⟨N,hN⟩:∃N,N=guessM k [b0,b1,b2,b3,b4,b5,b6,b7]:=⟨_,rfl⟩;have hd:N.data= []:=by rw[hN,hG];rfl
    rw[←hG,←hN];rw[show dataB 7=false from rfl];have hb7:=zc4 hbx6 hbwW;have HN:=zak hN;have HD:=zak hd;clear hN hd hG;clear aP aQ aR aS aT aU aV aW aX aY aG aH aI aJ aZ;obtain⟨bh,bi,bj,bm,bn,bo,bp,br,bs,bt,bc,bd,bf,bg⟩:=zde q1x;have bJ:=q1x.frozen;obtain⟨kind,ix,sub,tg,la,cr,sz,size,code,data,sq,bl,em,sum⟩:=N;simp only[msV,if_true,if_false,Bool.false_eq_true,ite_self];go_wp2_with fail
    refine bodyPost_ret (v:= .agg #[.int .i64 kind,.int .i64 ix,.int .i64 sub,.bool tg,.bool la,.bool cr,.bool sz,.int .u32 (size:Nat),.int .u32 (code:Nat),.slice none 0 0,.int .i64 sq,.int .i64 bl,.int .i64 em,.int .u16 (sum:Nat)]) (by simp[results,Tryz.results224,go_sem,bh,bi,bj,bm,bn,bo,bp,br,bs,bt,bc,bd,bf,bg,bJ]) rfl ?_;exact⟨none,0,0,by rw[←HN.out];rfl,by rw[←HN.out,HD.out];exact zdv.nil _ _,kBl⟩
  · skip
    have hG:=zfx k b0 b1 b2 b3 b4 b5 b6 b7 HF.out;clear e1;have q0'_c0:=q0'.cell 0 rfl;have q0'_f:=q0'.frozen;obtain⟨aP,aQ,aR,aS,aT,aU,aV,aW,aX,aY,aG,aH,aI,aJ⟩:=zde qm;have aZ:=qm.frozen;go_wp2_with fail
    refine (zfe ⟨k,(leN [b1,b2]:Nat),(b3.toNat:Nat),decide (b0.toNat / 16 % 2=1),false,decide (b0.toNat / 4 % 2=1),false,leN [b4,b5,b6,b7],leN [b4,b5,b6,b7],[],0,(b4.toNat:Int),0,0⟩ none 0 0 _ rfl).mono ?_;rintro e w6 ⟨rfl,hb6⟩;have hbx6:Below W.heap.size W w6:=by refine zc4 hb6 ?_;repeat (first | exact hbx | refine zds (Nat.le_refl _) ?_ | refine zdr ?_)
    have q1x:=q1W.below hbx6 hsz;obtain⟨N,hN⟩:∃N,N=guessM k [b0,b1,b2,b3,b4,b5,b6,b7]:=⟨_,rfl⟩;have hd:N.data= []:=by rw[hN,hG];rfl
    rw[←hG,←hN];rw[show dataB 8=false from rfl];have hb7:=zc4 hbx6 hbwW;have HN:=zak hN;have HD:=zak hd;clear hN hd hG;clear aP aQ aR aS aT aU aV aW aX aY aG aH aI aJ aZ;obtain⟨bh,bi,bj,bm,bn,bo,bp,br,bs,bt,bc,bd,bf,bg⟩:=zde q1x;have bJ:=q1x.frozen;obtain⟨kind,ix,sub,tg,la,cr,sz,size,code,data,sq,bl,em,sum⟩:=N;simp only[msV,if_true,if_false,Bool.false_eq_true,ite_self];go_wp2_with fail
    refine bodyPost_ret (v:= .agg #[.int .i64 kind,.int .i64 ix,.int .i64 sub,.bool tg,.bool la,.bool cr,.bool sz,.int .u32 (size:Nat),.int .u32 (code:Nat),.slice none 0 0,.int .i64 sq,.int .i64 bl,.int .i64 em,.int .u16 (sum:Nat)]) (by simp[results,Tryz.results224,go_sem,bh,bi,bj,bm,bn,bo,bp,br,bs,bt,bc,bd,bf,bg,bJ]) rfl ?_;exact⟨none,0,0,by rw[←HN.out];rfl,by rw[←HN.out,HD.out];exact zdv.nil _ _,kBl⟩
  · skip
    have hG:=zfy k b0 b1 b2 b3 b4 b5 b6 b7 HF.out;clear e1;have q0'_c0:=q0'.cell 0 rfl;have q0'_f:=q0'.frozen;obtain⟨aP,aQ,aR,aS,aT,aU,aV,aW,aX,aY,aG,aH,aI,aJ⟩:=zde qm;have aZ:=qm.frozen;go_wp2_with fail
    have r1W:=hsW.byte_ (j:=1) (by simp);obtain⟨ga1,go1,z1,r1W⟩:=r1W;injection z1 with z1
    injection z1 with z1 z1'
    subst z1 z1';have r2W:=hsW.byte_ (j:=2) (by simp);obtain⟨ga1,go1,z1,r2W⟩:=r2W;injection z1 with z1
    injection z1 with z1 z1'
    subst z1 z1';simp only[List.getElem_cons_zero,List.getElem_cons_succ] at r1W r2W;have k9:=q0W.cell 0 rfl;have mi:=q0W.frozen;refine wp_region_held_drew (S:=(fun w'=>(∀qA:Addr,qA.block < (W).heap.size→w'.cell? qA=(W).cell? qA)∧ Below (W).heap.size (W) w')) (by kernel_rfl) ?hS69 (fun hHeld=>?rest69)
    case hS69=>exact kSn
    case' rest69=>skip
    refine tkH 0 ?_;try simp only[PqL,Act.put]
    refine tkH 4 ?_;try simp only[PqL,Act.put]
    refine tkH 1 ?_;try simp only[PqL,Act.put]
    refine tkH 5 ?_;try simp only[PqL,Act.put]
    refine tkH 2 ?_;try simp only[PqL,Act.put]
    refine tkH 6 ?_;try simp only[PqL,Act.put]
    refine tkH 3 ?_;try simp only[PqL,Act.put]
    refine tkH 7 ?_;try simp only[PqL,Act.put]
    refine tkH 8 ?_;try simp only[PqL,Act.put]
    refine kRd 9 (fun K hK=>?_)
    go_simp
    refine hK.out _ _ ?hS81 (fun hHeld=>?rest81)
    case hS81=>exact kSn
    case' rest81=>(clear hK K;try simp only[PqL,Act.put])
    refine tkH 10 ?_;try simp only[PqL,Act.put]
    refine kRd 11 (fun K hK=>?_)
    go_simp
    refine hK.out _ _ ?hS85 (fun hHeld=>?rest85)
    case hS85=>exact kSn
    case' rest85=>(clear hK K;try simp only[PqL,Act.put])
    refine wpAnyH_done (by kernel_rfl) ?_ _;have hEnd:=hHeld.2
    repeat (clear hHeld)
    go_wp2_with fail
    refine (zff ⟨k,(leN [b1,b2]:Nat),(b3.toNat:Nat),decide (b0.toNat / 16 % 2=1),false,decide (b0.toNat / 4 % 2=1),false,leN [b4,b5,b6,b7],leN [b4,b5,b6,b7],[],(b1.toNat:Int),(b2.toNat:Int),0,0⟩ none 0 0 _ rfl).mono ?_;rintro e w6 ⟨rfl,hb6⟩;have hbx6:Below W.heap.size W w6:=by refine zc4 hb6 ?_;repeat (first | exact hbx | refine zds (Nat.le_refl _) ?_ | refine zdr ?_)
    have q1x:=q1W.below hbx6 hsz;obtain⟨N,hN⟩:∃N,N=guessM k [b0,b1,b2,b3,b4,b5,b6,b7]:=⟨_,rfl⟩;have hd:N.data= []:=by rw[hN,hG];rfl
    rw[←hG,←hN];rw[show dataB 9=false from rfl];have hb7:=zc4 hbx6 hbwW;have HN:=zak hN;have HD:=zak hd;clear hN hd hG;clear aP aQ aR aS aT aU aV aW aX aY aG aH aI aJ aZ;obtain⟨bh,bi,bj,bm,bn,bo,bp,br,bs,bt,bc,bd,bf,bg⟩:=zde q1x;have bJ:=q1x.frozen;obtain⟨kind,ix,sub,tg,la,cr,sz,size,code,data,sq,bl,em,sum⟩:=N;simp only[msV,if_true,if_false,Bool.false_eq_true,ite_self];go_wp2_with fail
    refine bodyPost_ret (v:= .agg #[.int .i64 kind,.int .i64 ix,.int .i64 sub,.bool tg,.bool la,.bool cr,.bool sz,.int .u32 (size:Nat),.int .u32 (code:Nat),.slice none 0 0,.int .i64 sq,.int .i64 bl,.int .i64 em,.int .u16 (sum:Nat)]) (by simp[results,Tryz.results224,go_sem,bh,bi,bj,bm,bn,bo,bp,br,bs,bt,bc,bd,bf,bg,bJ]) rfl ?_;exact⟨none,0,0,by rw[←HN.out];rfl,by rw[←HN.out,HD.out];exact zdv.nil _ _,kBl⟩
  · skip
    have hG:=zf0 k b0 b1 b2 b3 b4 b5 b6 b7 HF.out;clear e1;have q0'_c0:=q0'.cell 0 rfl;have q0'_f:=q0'.frozen;obtain⟨aP,aQ,aR,aS,aT,aU,aV,aW,aX,aY,aG,aH,aI,aJ⟩:=zde qm;have aZ:=qm.frozen;go_wp2_with fail
    skip
    refine (ze0 (some ⟨gb,go,none⟩) 8 c [b0,b1,b2,b3,b4,b5,b6,b7] 1 _ _ rfl hc (by omega) (by simp;try omega) (by exact hsW.below (by repeat (first | exact hbx | refine zds (Nat.le_refl _) ?_)))).mono ?_;rintro e w5 ⟨A5,n5,c5,rfl,hO5,hb5⟩;have hbx5:Below W.heap.size W w5:=by refine zc4 hb5 ?_;repeat (first | exact hbx | refine zds (Nat.le_refl _) ?_ | refine zdr ?_)
    have hB1:W.heap.size < wc.heap.size:=by simpa using hzx
    replace qm:=(qm).below hb5 (by simpa using hzx);generalize wc.heap.size=B1 at hO5 hB1;clear aP aQ aR aS aT aU aV aW aX aY aG aH aI aJ aZ
    skip
    obtain⟨aP,aQ,aR,aS,aT,aU,aV,aW,aX,aY,aG,aH,aI,aJ⟩:=zde qm;have aZ:=qm.frozen;go_wp2_with fail
    refine (zfh ⟨k,(leN [b1,b2]:Nat),(b3.toNat:Nat),decide (b0.toNat / 16 % 2=1),decide (128≤b0.toNat),decide (b0.toNat / 4 % 2=1),false,leN [b4,b5,b6,b7],leN [b4,b5,b6,b7],([b0,b1,b2,b3,b4,b5,b6,b7].drop 1).take 7,(wrap64 (bits .and .u8 (b0.toNat:Int) 127)),0,0,0⟩ A5 n5 c5 _ hO5.hn).mono ?_;rintro e w6 ⟨rfl,hb6⟩;have hbx6:Below W.heap.size W w6:=by refine zc4 hb6 ?_;repeat (first | exact hbx5 | refine zds (Nat.le_refl _) ?_ | refine zdr ?_)
    have q1x:=q1W.below hbx6 hsz;obtain⟨N,hN⟩:∃N,N=guessM k [b0,b1,b2,b3,b4,b5,b6,b7]:=⟨_,rfl⟩;have hd:N.data=([b0,b1,b2,b3,b4,b5,b6,b7].drop 1).take (7):=by rw[hN,hG];rfl
    have hO6:zdv w6 B1 A5 n5 c5 N.data:=by
     rw[hd];refine zdv.below ?_ hb6
     repeat (first | exact hO5 | refine zdv.set_ ?_ (p:=⟨W.heap.size,_,none⟩) (by simpa using hB1) _)
    have hB2:w.heap.size+1 < B1:=by omega
    rw[←hG,←hN];rw[show dataB 11=true from rfl];have hb7:=zc4 hbx6 hbwW;have HN:=zak hN;have HD:=zak hd;clear hN hd hG;clear aP aQ aR aS aT aU aV aW aX aY aG aH aI aJ aZ;obtain⟨bh,bi,bj,bm,bn,bo,bp,br,bs,bt,bc,bd,bf,bg⟩:=zde q1x;have bJ:=q1x.frozen;obtain⟨kind,ix,sub,tg,la,cr,sz,size,code,data,sq,bl,em,sum⟩:=N;simp only[msV,if_true,if_false,Bool.false_eq_true,ite_self];go_wp2_with fail
    refine bodyPost_ret (v:= .agg #[.int .i64 kind,.int .i64 ix,.int .i64 sub,.bool tg,.bool la,.bool cr,.bool sz,.int .u32 (size:Nat),.int .u32 (code:Nat),.slice A5 n5 c5,.int .i64 sq,.int .i64 bl,.int .i64 em,.int .u16 (sum:Nat)]) (by simp[results,Tryz.results224,go_sem,bh,bi,bj,bm,bn,bo,bp,br,bs,bt,bc,bd,bf,bg,bJ]) rfl ?_;exact⟨A5,n5,c5,by rw[←HN.out];rfl,by rw[←HN.out];exact (zfm hO6 hB2 _ _ _ _ _ _ _ _ _ _ _ _ _ _).mono (by omega),kBl⟩
end
section
open Go.RowKit
theorem zf4 (M N:Ms)(A1 A2:Option Addr)(n1 c1 n2 c2:Nat)(w:World)(hn1:n1=M.data.length)(hn2:n2=N.data.length)(h1:Sl w A1 (M.data.map bv))(h2:Sl w A2 (N.data.map bv)) :
 Calls Tryz.prog 228 #[.agg (msV M A1 n1 c1),.agg (msV N A2 n2 c2)] w fun e w'=>e= .returned (.bool (sameB M N))∧ Below w.heap.size w w':=by
 have t1:=zdx c1 hn1 ((h1.alloc (.cells (msV M A1 n1 c1) 95)).alloc (.cells (msV N A2 n2 c2) 95));have t2:=zdx c2 hn2 ((h2.alloc (.cells (msV M A1 n1 c1) 95)).alloc (.cells (msV N A2 n2 c2) 95));obtain⟨kind,ix,sub,tg,la,cr,sz,size,code,data,sq,bl,em,sum⟩:=M;obtain⟨kind',ix',sub',tg',la',cr',sz',size',code',data',sq',bl',em',sum'⟩:=N;simp only[msV] at *
 by_cases he:kind=kind'∧ix=ix'∧sub=sub'∧tg=tg'∧la=la'∧cr=cr'∧sz=sz'∧size=size'∧code=code'∧sq=sq'∧bl=bl'∧em=em'∧sum=sum'
 · obtain⟨rfl,rfl,rfl,rfl,rfl,rfl,rfl,rfl,rfl,rfl,rfl,rfl,rfl⟩:=he;clear hn1 hn2 h1 h2;go_enter Tryz.func228,Tryz.ntmps228
   go_wp2_with fail
   all_goals
    go_ret
    refine⟨zau ?_,zc5 (zc5 (Below.refl _ _) _) _⟩
    go_light
    clear t1 t2;rw[Bool.eq_iff_iff]
    simp_all [sameB]
 · have HE:=zak he;have HNE:Hid (sameB ⟨kind,ix,sub,tg,la,cr,sz,size,code,data,sq,bl,em,sum⟩ ⟨kind',ix',sub',tg',la',cr',sz',size',code',data',sq',bl',em',sum'⟩=false):=zak (by
    unfold sameB;rw[decide_eq_false_iff_not];intro h;injection h with h1 h2 h3 h4 h5 h6 h7 h8 h9 h10 h11 h12 h13 h14
    exact he ⟨h1,h2,h3,h4,h5,h6,h7,h8,h9,h11,h12,h13,h14⟩)
   clear hn1 hn2 h1 h2 he t1 t2;go_enter Tryz.func228,Tryz.ntmps228
   go_wp2_with fail
   all_goals first
    | (go_ret
       exact⟨zau HNE.out.symm,zc5 (zc5 (Below.refl _ _) _) _⟩)
    | (exfalso
       go_light
       have:=HE.out
       simp_all
       done)
    | (exfalso
       go_light
       have:=HE.out
       simp_all
       omega)
end
section
open Go.RowKit
theorem sl_if {w:World}{A:Option Addr}{d:List UInt8}(b:Bool)(h:Sl w A (d.map bv)):Sl w (if b=true then A else none) ((if b=true then d else []).map bv):=by
 cases b
 · exact Sl.nil _ _
 · exact h
theorem zf5 (M:Ms)(A:Option Addr)(n c:Nat)(w:World)(hn:n=M.data.length)(hs:Sl w A (M.data.map bv)) :
 Calls Tryz.prog 196 #[.int .i64 (formI M.kind),.agg (msV M A n c)] w fun e w'=>e= .returned (.bool (canB M))∧ Below w.heap.size w w':=by
 have q0:=zdg w 95 (msV M A n c);have hbw:=zc5 (Below.refl w.heap.size w) (.cells (msV M A n c) 95);have hs1:=hs.alloc (.cells (msV M A n c) 95);have HO:=zak (fun W=>zfi M.kind M A n c W hn);have hnO:(if dataB (formI M.kind)=true then n else 0)=(onlyM (formI M.kind) M).data.length:=by
  rw[hn];unfold onlyM;simp only[];split<;>rfl
 have HSM:=zak (fun W h1 h2=>zf4 M (onlyM (formI M.kind) M) A (if dataB (formI M.kind)=true then A else none) n c (if dataB (formI M.kind)=true then n else 0) (if dataB (formI M.kind)=true then c else 0) W hn hnO h1 h2);have hsO:Hid (∀W,Sl W A (M.data.map bv)→ Sl W (if dataB (formI M.kind)=true then A else none) ((onlyM (formI M.kind) M).data.map bv)):=zak (fun W h=>sl_if _ h);unfold OnlyR at HO;obtain⟨b0,e0⟩:∃b,b=(decide (formI M.kind≠0) && rangeB M):=⟨_,rfl⟩;obtain⟨sm,es⟩:∃b,b=sameB M (onlyM (formI M.kind) M):=⟨_,rfl⟩;have HC:Hid (canB M=(b0 && shapeB (formI M.kind) M && sm)):=zak (by rw[e0,es];rfl)
 rw[←es] at HSM;have HN:=zak hn;have H0:=zak e0;clear hn hs hnO e0 es;generalize onlyM (formI M.kind) M=N at *
 obtain⟨f,hf⟩:∃f,formI M.kind=f:=⟨_,rfl⟩;rw[hf] at HO HSM hsO HC H0 ⊢;clear hf;obtain⟨kind,ix,sub,tg,la,cr,sz,size,code,data,sq,bl,em,sum⟩:=M;simp only[msV] at *
 go_enter Tryz.func196,Tryz.ntmps196
 go_upto_region 2 with fail
 go_cut [6] (fun s6 wx=>s6= .bool b0∧wx=w.alloc (.cells #[.int .i64 kind,.int .i64 ix,.int .i64 sub,.bool tg,.bool la,.bool cr,.bool sz,.int .u32 (size:Nat),.int .u32 (code:Nat),.slice A n c,.int .i64 sq,.int .i64 bl,.int .i64 em,.int .u16 (sum:Nat)] 95))
 case first=>
  have HE:Hid (b0=(decide (f≠0) && ((decide (0≤ix) && decide (ix≤65535)) && (decide (0≤sub) && decide (sub≤255)) && (decide (0≤sq) && decide (sq≤127)) && (decide (0≤bl) && decide (bl≤127)) && (decide (0≤em) && decide (em≤7)) && decide (n≤7)))):=zak (by rw[H0.out,HN.out];rfl);clear HO HSM hsO HC H0;obtain⟨b1,e1⟩:∃b,b=(decide (0≤ix) && decide (ix≤65535)):=⟨_,rfl⟩;obtain⟨b2,e2⟩:∃b,b=(decide (0≤sub) && decide (sub≤255)):=⟨_,rfl⟩;obtain⟨b3,e3⟩:∃b,b=(decide (0≤sq) && decide (sq≤127)):=⟨_,rfl⟩;obtain⟨b4,e4⟩:∃b,b=(decide (0≤bl) && decide (bl≤127)):=⟨_,rfl⟩;obtain⟨b5,e5⟩:∃b,b=(decide (0≤em) && decide (em≤7)):=⟨_,rfl⟩
  rw[←e1,←e2,←e3,←e4,←e5] at HE;have W1:=zak (fun W=>ze5 ix 65535 W);have W2:=zak (fun W=>ze5 sub 255 W);have W3:=zak (fun W=>ze5 sq 127 W);have W4:=zak (fun W=>ze5 bl 127 W);have W5:=zak (fun W=>ze5 em 7 W);rw[←e1] at W1;rw[←e2] at W2;rw[←e3] at W3;rw[←e4] at W4;rw[←e5] at W5;clear e1 e2 e3 e4 e5;by_cases hf0:f=0
  · subst hf0;go_wp2_with fail
    go_meet
    exact⟨by rw[HE.out];rfl,rfl⟩
  have hf1:(f != 0)=true:=by simpa using hf0
  have HF:Hid (decide (f≠0)=true):=zak (by simpa using hf0);rw[HF.out] at HE;clear hf0;go_wp2_with fail
  refine (W1.out _).mono ?_;rintro e w2 ⟨rfl,rfl⟩;cases b1
  · go_wp2_with fail
    go_meet
    exact⟨by rw[HE.out];simp,rfl⟩
  go_wp2_with fail
  refine (W2.out _).mono ?_;rintro e w2 ⟨rfl,rfl⟩;cases b2
  · go_wp2_with fail
    go_meet
    exact⟨by rw[HE.out];simp,rfl⟩
  go_wp2_with fail
  refine (W3.out _).mono ?_;rintro e w2 ⟨rfl,rfl⟩;cases b3
  · go_wp2_with fail
    go_meet
    exact⟨by rw[HE.out];simp,rfl⟩
  go_wp2_with fail
  refine (W4.out _).mono ?_;rintro e w2 ⟨rfl,rfl⟩;cases b4
  · go_wp2_with fail
    go_meet
    exact⟨by rw[HE.out];simp,rfl⟩
  go_wp2_with fail
  refine (W5.out _).mono ?_;rintro e w2 ⟨rfl,rfl⟩;cases b5
  · go_wp2_with fail
    go_meet
    exact⟨by rw[HE.out];simp,rfl⟩
  by_cases h7:n≤7
  · have HE7:Hid (b0=true):=zak (by rw[HE.out];simp[h7]);go_wp2_with fail
    go_meet
    exact⟨by rw[HE7.out];congr 1;simp;omega,rfl⟩
  · have HE7:Hid (b0=false):=zak (by rw[HE.out];simp[h7]);have h7':(7:Int) < (n:Int):=by omega
    go_wp2_with fail
    go_meet
    exact⟨by rw[HE7.out];congr 1;simp;omega,rfl⟩
 case rest=>
  obtain⟨rfl,rfl⟩:=hcut;have hz:=q0.lt;generalize w.alloc (.cells #[.int .i64 kind,.int .i64 ix,.int .i64 sub,.bool tg,.bool la,.bool cr,.bool sz,.int .u32 (size:Nat),.int .u32 (code:Nat),.slice A n c,.int .i64 sq,.int .i64 bl,.int .i64 em,.int .u16 (sum:Nat)] 95)=W at *
  obtain⟨mj,ml,mn,mq,mr,mt,mu,mv,mw,my,lc,ld,lg,lh⟩:=zde q0;have nG:=q0.frozen;go_upto_block 0 with fail
  go_cut [6] (fun s6 wx=>s6= .bool (b0 && shapeB f ⟨kind,ix,sub,tg,la,cr,sz,size,code,data,sq,bl,em,sum⟩)∧ wx=W)
  case first=>
   clear HO HSM hsO HC;have hfc:f=2∨f=11∨(f≠2∧f≠11):=by omega
   rcases hfc with hf2 | hf11 | ⟨hf2,hf11⟩
   · have hf2':(f == 2)=true:=by simpa using hf2
     have HSH:Hid (shapeB f ⟨kind,ix,sub,tg,la,cr,sz,size,code,data,sq,bl,em,sum⟩=(decide (n=0) || decide (n=4) || (decide (n < 4) && sz))):=zak (by rw[HN.out];unfold shapeB;rw[if_pos hf2]);clear hf2;cases b0
     · go_wp2_with fail
       go_meet
       exact⟨by simp,rfl⟩
     rcases (show n=0∨n=4∨((n≠0∧n≠4)∧ n < 4)∨ 4 < n by omega) with rfl | rfl | ⟨⟨a1,a2⟩,a3⟩ | a4
     · go_wp2_with fail
       go_meet
       exact⟨by rw[HSH.out];simp,rfl⟩
     · go_wp2_with fail
       go_meet
       exact⟨by rw[HSH.out];simp,rfl⟩
     · have HH:Hid (shapeB f ⟨kind,ix,sub,tg,la,cr,sz,size,code,data,sq,bl,em,sum⟩=sz):=zak (by rw[HSH.out];simp[a1,a2,a3]);have a1':((n:Int) == 0)=false:=by simpa using a1
       have a2':((n:Int) == 4)=false:=by simp;omega
       clear a1 a2;go_wp2_with fail
       go_meet
       exact⟨by rw[HH.out];simp,rfl⟩
     · have b1: ¬n=0:=by omega
       have b2: ¬n=4:=by omega
       have b3: ¬n < 4:=by omega
       have HH:Hid (shapeB f ⟨kind,ix,sub,tg,la,cr,sz,size,code,data,sq,bl,em,sum⟩=false):=zak (by rw[HSH.out];simp[b1,b2,b3]);have a1':((n:Int) == 0)=false:=by simp;omega
       have a2':((n:Int) == 4)=false:=by simp;omega
       have a3':(4:Int)≤ (n:Int):=by omega
       clear b1 b2 b3;go_wp2_with fail
       go_meet
       exact⟨by rw[HH.out];simp,rfl⟩
   · have hf11':(f == 11)=true:=by simpa using hf11
     have hf2':(f == 2)=false:=by simp;omega
     have HSH:Hid (shapeB f ⟨kind,ix,sub,tg,la,cr,sz,size,code,data,sq,bl,em,sum⟩=(decide (n=7) && decide (0 < sq))):=zak (by rw[HN.out];unfold shapeB;rw[if_neg (by omega),if_pos hf11]);clear hf11;cases b0
     · go_wp2_with fail
       go_meet
       exact⟨by simp,rfl⟩
     by_cases a1:n=7
     · subst a1;go_wp2_with fail
       go_meet
       exact⟨by rw[HSH.out];simp,rfl⟩
     · have HH:Hid (shapeB f ⟨kind,ix,sub,tg,la,cr,sz,size,code,data,sq,bl,em,sum⟩=false):=zak (by rw[HSH.out];simp[a1]);have a1':((n:Int) == 7)=false:=by simp;omega
       clear a1;go_wp2_with fail
       go_meet
       exact⟨by rw[HH.out];simp,rfl⟩
   · have hf11':(f == 11)=false:=by simpa using hf11
     have hf2':(f == 2)=false:=by simpa using hf2
     have HSH:Hid (shapeB f ⟨kind,ix,sub,tg,la,cr,sz,size,code,data,sq,bl,em,sum⟩=true):=zak (by unfold shapeB;rw[if_neg hf2,if_neg hf11]);clear hf11 hf2;go_wp2_with fail
     go_meet
     exact⟨by rw[HSH.out];simp,rfl⟩
  case rest=>
   obtain⟨rfl,hW⟩:=hcut;have hW':=hW.symm;clear hW;subst hW';obtain⟨b8,e8⟩:∃b,b=(b0 && shapeB f ⟨kind,ix,sub,tg,la,cr,sz,size,code,data,sq,bl,em,sum⟩):=⟨_,rfl⟩;have HV:Hid (canB ⟨kind,ix,sub,tg,la,cr,sz,size,code,data,sq,bl,em,sum⟩=(b8 && sm)):=zak (by rw[HC.out,e8]);rw[←e8];clear e8 HC;cases b8
   · go_wp2_with fail
     go_quiet (fail)
     go_wp2_with fail
     go_ret
     exact⟨zau (by rw[HV.out];rfl),zdq hbw _⟩
   · go_wp2_with fail
     refine wp_region_held_drew (S:=(fun w'=>(∀qA:Addr,qA.block < (W).heap.size→w'.cell? qA=(W).cell? qA)∧ Below (W).heap.size (W) w')) (by kernel_rfl) ?hS1 (fun hHeld=>?rest1)
     case hS1=>exact kSn
     case' rest1=>skip
     iterate 5 (refine tkN ?_;try simp only[PqL,Act.put])
     refine kRd 5 (fun K hK=>?_)
     go_simp
     refine (HO.out _).mono ?_;rintro e w3 ⟨rfl,hb3⟩;try dsimp only
     refine hK.out _ _ ?hS9 (fun hHeld=>?rest9)
     case hS9=>exact kSn
     case' rest9=>(clear hK K;try simp only[PqL,Act.put])
     refine kRd 6 (fun K hK=>?_)
     go_simp
     refine (HSM.out _ (hs1.drew.below hb3) (hsO.out _ (hs1.drew.below hb3))).mono ?_;rintro e w4 ⟨rfl,hb4⟩;try dsimp only
     refine hK.out _ _ ?hS12 (fun hHeld=>?rest12)
     case hS12=>exact kSn
     case' rest12=>(clear hK K;try simp only[PqL,Act.put])
     refine kRd 7 (fun K hK=>?_)
     go_simp
     refine hK.out _ _ ?hS15 (fun hHeld=>?rest15)
     case hS15=>exact kSn
     case' rest15=>(clear hK K;try simp only[PqL,Act.put])
     refine kRd 8 (fun K hK=>?_)
     go_simp
     refine hK.out _ _ ?hS18 (fun hHeld=>?rest18)
     case hS18=>exact kSn
     case' rest18=>(clear hK K;try simp only[PqL,Act.put])
     refine wpAnyH_done (by kernel_rfl) ?_ _;have hEnd:=hHeld.2
     repeat (clear hHeld)
     go_wp2_with fail
     all_goals
      go_ret
      exact⟨zau (by rw[HV.out];simp_all),zc4 hEnd hbw⟩
end
end Go.Proofs.YtkkpjbjmhaecjaaGreat
