/- None -/
import Derived.Test.YtkkpjbjmhaecjaaGreatT09
namespace Go.Proofs.YtkkpjbjmhaecjaaGreat
set_option linter.all false
set_option maxRecDepth 100000
set_option maxHeartbeats 8000000
section
open Go.RowKit
structure St (w W:World) (gb x:Nat) (l:List UInt8) (cs:Array Value):Prop where
 m:Blk W w.heap.size 95 cs
 f:Blk W (w.heap.size+1) 5 #[.int .u8 (x:Nat)]
 b:Bl8 W gb l
 hb:w.heap.size+1 < gb
 be:Below w.heap.size w W
 hl:l.length=8
 hx:x < 256
section
variable {w W W':World} {gb x:Nat} {l:List UInt8} {cs:Array Value}
theorem St.drew (h:St w W gb x l cs):St w W.drew gb x l cs:=⟨h.m,h.f,h.b,h.hb,h.be.drew,h.hl,h.hx⟩
theorem St.put {l':List UInt8}(h:St w W gb x l cs)(hB:Bl8 W' gb l')(hl:l'.length=8)(hg:W.grownBy W' (some gb)):St w W' gb x l' cs:=
 ⟨h.m.grown hg (by intro e;injection e with e;have:=h.hb;omega),h.f.grown hg (by intro e;injection e with e;have:=h.hb;omega),hB,h.hb,zdo h.be hg (by have:=h.hb;omega) h.be.size,hl,h.hx⟩
theorem St.bit {x':Nat}(h:St w W gb x l cs)(hf:Blk W' (w.heap.size+1) 5 #[.int .u8 (x':Nat)])(hx:x' < 256)(hg:W.grownBy W' (some (w.heap.size+1))):St w W' gb x' l cs:=
 ⟨h.m.grown hg (by intro e;injection e with e;omega),hf,Blk.grown h.b hg (by intro e;injection e with e;have:=h.hb;omega),h.hb,zdo h.be hg (by omega) h.be.size,h.hl,hx⟩
theorem St.fst {x':Nat}(h:St w W gb x l cs)(hx:x' < 256):St w (W.setCell ⟨w.heap.size+1,0,none⟩ (.int .u8 (x':Nat))) gb x' l cs:=
 h.bit (by simpa using h.f.set_ 0 (.int .u8 (x':Nat))) hx (zc3 (World.grownBy.refl _ _) (.inl rfl) _ _)
theorem St.byte (h:St w W gb x l cs)(i:Nat)(c:UInt8):St w (W.setCell ⟨gb,i,none⟩ (bv c)) gb x (l.set i c) cs:=
 h.put (h.b.set8 i c) (by simp[h.hl]) (zc3 (World.grownBy.refl _ _) (.inl rfl) _ _)
theorem zf6 {b:Bool}{x y:Nat}(hx:x < 256)(hy:y < 256):orB b x y < 256:=by
 unfold orB;split
 · exact Nat.or_lt_two_pow (n:=8) hx hy
 · exact hx
def StR (w:World) (gb x:Nat) (l:List UInt8) (cs:Array Value) (e:Ending) (w':World):Prop:=e= .returned (.tuple #[])∧ St w w' gb x l cs
theorem zf7 (at_ wd n:Nat)(h:St w W gb x l cs)(hx:U64 n)(hw:at_+wd≤8) :
 Calls Tryz.prog 197 #[.int .i64 (at_:Nat),.int .i64 (wd:Nat),.int .u64 (n:Nat),.pointer (some ⟨gb,0,none⟩)] W (StR w gb x (putL l at_ wd n) cs):=
 (zey at_ wd n gb l W h.hl hx hw h.b).mono fun _ _ ⟨he,hB,hg⟩=> ⟨he,h.put hB (by rw[zcq,h.hl]) hg⟩
theorem zf8 (b:Bool)(y:Nat)(h:St w W gb x l cs)(hy:y < 256) :
 Calls Tryz.prog 198 #[.bool b,.int .u8 (y:Nat),.pointer (some ⟨w.heap.size+1,0,none⟩)] W (StR w gb (orB b x y) l cs):=
 (zez b x y (w.heap.size+1) W h.hx hy h.f).mono fun _ _ ⟨he,hB,hg⟩=> ⟨he,h.bit hB (zf6 h.hx hy) hg⟩
theorem zf9 (A:Option Addr)(n c o m:Nat)(d:List UInt8)(h:St w W gb x l cs)(hn:n=d.length)(hom:o+m=8)(hnm:n≤m)(hs:Sl W A (d.map bv)) :
 ∃W',(Builtin.copy_ #[27,27] 3 #[.slice (some ⟨gb,o,none⟩) m m,.slice A n c]).run Tryz.prog W= .ok (goInt n) W'∧St w W' gb x (cpL l o d) cs∧W.grownBy W' (some gb):=by
 by_cases h0:n=0
 · have hd:d= []:=List.eq_nil_of_length_eq_zero (by omega);subst h0 hd;refine⟨W,run_copy_none W _ _ _ _ _ _ _ _ _ _ Tryz.underlying27 zdu (by simp),?_,World.grownBy.refl _ _⟩
   have:cpL l o []=l:=by simp[cpL]
   rw[this];exact h
 · obtain⟨ad,rfl,_⟩:=hs.byte (j:=0) (by omega);have hB:W.heap[gb]? =some (.cells (l.map bv).toArray 240 (0,0)):=h.b
   have hr:=run_copy_row (P:=Tryz.prog) W 27 27 3 5 gb o m m ad n c (l.map bv).toArray 240 (d.map bv) Tryz.underlying27 zdu hB
    (by simp only[List.length_map];show d.length=min n m;omega) (fun j v hv=>by obtain⟨ad',e,hc⟩:=hs j v hv;injection e with e;subst e;exact hc) (by have:=h.hl;simp;omega) (zc1 _)
   have hl:(l.map bv).toArray.toList.take o ++ d.map bv ++ (l.map bv).toArray.toList.drop (o+(d.map bv).length)=(cpL l o d).map bv:=by
    simp[cpL]
   rw[hl] at hr;have hg:W.grownBy (W.setRow gb ((cpL l o d).map bv).toArray) (some gb):=⟨rfl,rfl,rfl,by simp,fun i _ hne=>setRow_other W gb i _ (by intro e;subst e;exact hne rfl)⟩;refine⟨_,by simpa [hn] using hr,h.put (setRow_heap W gb _ _ _ _ hB) ?_ hg,hg⟩;rw[zcs _ _ _ (by have:=h.hl;omega),h.hl]
end
end
section
open Go.RowKit
def BuildM (M:Ms) (w:World) (e:Ending) (w':World):Prop:=
 ∃A' n' c',e= .returned (.tuple #[.slice A' n' c',.int .i64 (if canB M=true then 0 else 1)])∧ zdv w' w.heap.size A' n' c' (if canB M=true then laidB M else [])∧ Below w.heap.size w w'
theorem zgb (M:Ms)(A:Option Addr)(n c:Nat)(w:World)(hn:n=M.data.length)(hs:Sl w A (M.data.map bv))(hcan:canB M=false) :
 Calls Tryz.prog 145 #[.agg (msV M A n c)] w (BuildM M w):=by
 have q0:=zdg w 95 (msV M A n c);have hs1:=hs.alloc (.cells (msV M A n c) 95);have HR:=zak (fun W h=>zf5 M A n c W hn h);rw[hcan] at HR;have HCN:=zak hcan;clear hn hcan;obtain⟨kind,ix,sub,tg,la,cr,sz,size,code,data,sq,bl,em,sum⟩:=M;simp only[msV] at *
 go_enter Tryz.func145,Tryz.ntmps145
 go_wp2_with fail
 refine (ze3 kind _).mono ?_;rintro e w1 ⟨rfl,rfl⟩;go_wp2_with fail
 refine (HR.out _ (hs1.alloc _)).mono ?_;rintro e w1 ⟨rfl,hb1⟩;go_wp2_with fail
 go_ret2
 exact⟨none,0,0,by rw[HCN.out];rfl,by rw[HCN.out];exact zdv.nil _ _,kBl⟩
theorem zgd (M:Ms)(A:Option Addr)(n c:Nat)(w:World)(hn:n=M.data.length)(hs:Sl w A (M.data.map bv))(hcan:canB M=true)(hu1:M.size≤4294967295)(hu2:M.code≤4294967295)(hu3:M.sum≤65535) :
 Calls Tryz.prog 145 #[.agg (msV M A n c)] w (BuildM M w):=by
 have hrg:rangeB M=true∧shapeB (formI M.kind) M=true∧formI M.kind≠0:=by
  have:=hcan
  simp only[canB,Bool.and_eq_true,decide_eq_true_iff] at this;exact⟨this.1.1.2,this.1.2,this.1.1.1⟩
 have hs1:=hs.alloc (.cells (msV M A n c) 95);have HR:=zak (fun W h=>zf5 M A n c W hn h);rw[hcan] at HR;have HB:Hid (∀e w',(∃A' n' c',e= .returned (.tuple #[.slice A' n' c',.int .i64 0])∧ zdv w' w.heap.size A' n' c' (laidB M)∧ Below w.heap.size w w')→ BuildM M w e w'):=zak (by
  rintro e w' ⟨A',n',c',h1,h2,h3⟩;exact⟨A',n',c',by rw[hcan];exact h1,by rw[hcan];exact h2,h3⟩)
 have HN:=zak hn;obtain⟨hr1,hsh,hf0⟩:=hrg;obtain⟨kind,ix,sub,tg,la,cr,sz,size,code,data,sq,bl,em,sum⟩:=M;simp only[rangeB,Bool.and_eq_true,decide_eq_true_iff] at hr1;obtain⟨⟨⟨⟨⟨⟨a1,a2⟩,b1,b2⟩,c1,c2⟩,d1,d2⟩,e1,e2⟩,hd7⟩:=hr1;obtain⟨ix,rfl⟩:=Int.eq_ofNat_of_zero_le a1;obtain⟨sub,rfl⟩:=Int.eq_ofNat_of_zero_le b1;obtain⟨sq,rfl⟩:=Int.eq_ofNat_of_zero_le c1;obtain⟨bl,rfl⟩:=Int.eq_ofNat_of_zero_le d1;obtain⟨em,rfl⟩:=Int.eq_ofNat_of_zero_le e1;obtain⟨P,hP⟩:∃P,P=BuildM ⟨kind,ix,sub,tg,la,cr,sz,size,code,data,sq,bl,em,sum⟩ w:=⟨_,rfl⟩;rw[←hP] at HB ⊢;obtain⟨f,hf⟩:∃f,formI kind=f:=⟨_,rfl⟩;obtain⟨F0,hF0,hF1⟩:∃F0:Nat,firstI kind=(F0:Int)∧ F0 < 256:=by
  have:0≤firstI kind∧firstI kind < 256:=by unfold firstI;(repeat' split)<;> omega
  exact⟨(firstI kind).toNat,by omega,by omega⟩
 have HLD:Hid (laidB ⟨kind,ix,sub,tg,la,cr,sz,size,code,data,sq,bl,em,sum⟩=(bodL f ⟨kind,ix,sub,tg,la,cr,sz,size,code,data,sq,bl,em,sum⟩).set 0 (UInt8.ofNat (firB f ⟨kind,ix,sub,tg,la,cr,sz,size,code,data,sq,bl,em,sum⟩))):=zak (by unfold laidB;rw[show formI (Ms.kind ⟨kind,ix,sub,tg,la,cr,sz,size,code,data,sq,bl,em,sum⟩)=f from hf]);have HF0:=zak hF0;have HFK:=zak hf;simp only[] at hsh hf0 hu1 hu2 hu3 hd7;rw[hf] at hsh hf0;have hrange:=zcg kind;rw[hf] at hrange;have HSH:=zak hsh;have hn7:n≤7:=by have:=HN.out;simp only[] at this;omega
 have A2:ix≤65535:=by omega
 have B2:sub≤255:=by omega
 have C2:sq≤127:=by omega
 have D2:bl≤127:=by omega
 have E2:em≤7:=by omega
 clear hn hcan hP hf hF0 hsh a1 b1 c1 d1 e1 a2 b2 c2 d2 e2 hd7;simp only[msV] at *
 go_enter Tryz.func145,Tryz.ntmps145
 go_wp2_with fail
 refine (ze3 kind _).mono ?_;rintro e w1 ⟨rfl,rfl⟩;rw[HFK.out,HF0.out];have q0:=zdh w 95 5 #[.int .i64 kind,.int .i64 (ix:Nat),.int .i64 (sub:Nat),.bool tg,.bool la,.bool cr,.bool sz,.int .u32 (size:Nat),.int .u32 (code:Nat),.slice A n c,.int .i64 (sq:Nat),.int .i64 (bl:Nat),.int .i64 (em:Nat),.int .u16 (sum:Nat)] #[.int .u8 (F0:Nat)];have hbw:=zc5 (zc5 (Below.refl w.heap.size w) (.cells #[.int .i64 kind,.int .i64 (ix:Nat),.int .i64 (sub:Nat),.bool tg,.bool la,.bool cr,.bool sz,.int .u32 (size:Nat),.int .u32 (code:Nat),.slice A n c,.int .i64 (sq:Nat),.int .i64 (bl:Nat),.int .i64 (em:Nat),.int .u16 (sum:Nat)] 95)) (.cells #[.int .u8 (F0:Nat)] 5)
 rw[HFK.out] at HR;go_wp2_with fail
 refine (HR.out _ (hs1.alloc _)).mono ?_;rintro e w1 ⟨rfl,hb1⟩
 have h0:St w (w1.alloc (.cells #[.int .u8 0,.int .u8 0,.int .u8 0,.int .u8 0,.int .u8 0,.int .u8 0,.int .u8 0,.int .u8 0] 240)) w1.heap.size F0 z8 #[.int .i64 kind,.int .i64 (ix:Nat),.int .i64 (sub:Nat),.bool tg,.bool la,.bool cr,.bool sz,.int .u32 (size:Nat),.int .u32 (code:Nat),.slice A n c,.int .i64 (sq:Nat),.int .i64 (bl:Nat),.int .i64 (em:Nat),.int .u16 (sum:Nat)]:=
  ⟨(q0.1.below hb1 q0.1.lt).alloc _,(q0.2.below hb1 q0.2.lt).alloc _,zdg w1 _ _,by have:=(q0.2.below hb1 q0.2.lt).lt;omega,zc5 (zc4 hb1 hbw) _,rfl,hF1⟩
 have hsd:Hid (∀W,Below w.heap.size w W→Sl W A (data.map bv)):=zak (fun W h=>hs.below h);clear hb1 q0 hbw hs hs1;have qm:=h0.m;obtain⟨aP,aQ,aR,aS,aT,aU,aV,aW,aX,aY,aG,aH,aI,aJ⟩:=zde qm;have aZ:=qm.frozen;have qf:=h0.f;have ba:=qf.cell 0 rfl;have bu:=qf.frozen;have zm:=qm.lt;have zf:=qf.lt;have zb:=Blk.lt h0.b;have zbb:=h0.hb;go_wp2_with fail
 refine (ze4 f _).mono ?_;rintro e w2 ⟨rfl,rfl⟩;obtain⟨pb,hpb⟩:∃b,b=placedB f:=⟨_,rfl⟩;rw[←hpb];have HPL:Hid (plcL ⟨kind,ix,sub,tg,la,cr,sz,size,code,data,sq,bl,em,sum⟩=if pb=true then putL (putL z8 1 2 ix) 3 1 sub else z8):=zak (by
  unfold plcL;rw[show formI (Ms.kind ⟨kind,ix,sub,tg,la,cr,sz,size,code,data,sq,bl,em,sum⟩)=f from HFK.out,←hpb]
  rfl)
 clear hpb;go_upto_if 23 with fail
 go_cut [] (fun wx=>St w wx w1.heap.size F0 (plcL ⟨kind,ix,sub,tg,la,cr,sz,size,code,data,sq,bl,em,sum⟩) #[.int .i64 kind,.int .i64 (ix:Nat),.int .i64 (sub:Nat),.bool tg,.bool la,.bool cr,.bool sz,.int .u32 (size:Nat),.int .u32 (code:Nat),.slice A n c,.int .i64 (sq:Nat),.int .i64 (bl:Nat),.int .i64 (em:Nat),.int .u16 (sum:Nat)])
 case first=>
  cases pb
  · go_wp2_with fail
    go_meet
    rw[HPL.out];exact h0
  · go_wp2_with fail
    refine (zf7 1 2 ix h0 (U64.small (by omega)) (by omega)).mono ?_;rintro e W1 ⟨rfl,g1⟩;clear zm zf zb;clear aP aQ aR aS aT aU aV aW aX aY aG aH aI aJ aZ;clear ba bu;clear qm qf zbb;have qm:=g1.m;obtain⟨aP,aQ,aR,aS,aT,aU,aV,aW,aX,aY,aG,aH,aI,aJ⟩:=zde qm;have aZ:=qm.frozen;have qf:=g1.f;have ba:=qf.cell 0 rfl;have bu:=qf.frozen;have zm:=qm.lt;have zf:=qf.lt;have zb:=Blk.lt g1.b;have zbb:=g1.hb;go_wp2_with fail
    refine (zf7 3 1 sub g1 (U64.small (by omega)) (by omega)).mono ?_;rintro e W2 ⟨rfl,g2⟩;clear zm zf zb;clear aP aQ aR aS aT aU aV aW aX aY aG aH aI aJ aZ;clear ba bu;clear qm qf zbb;have qm:=g2.m;obtain⟨aP,aQ,aR,aS,aT,aU,aV,aW,aX,aY,aG,aH,aI,aJ⟩:=zde qm;have aZ:=qm.frozen;have qf:=g2.f;have ba:=qf.cell 0 rfl;have bu:=qf.frozen;have zm:=qm.lt;have zf:=qf.lt;have zb:=Blk.lt g2.b;have zbb:=g2.hb;go_wp2_with fail
    go_meet
    rw[HPL.out];exact g2
 case rest=>
  clear zm zf zb;clear aP aQ aR aS aT aU aV aW aX aY aG aH aI aJ aZ;clear ba bu;clear qm qf zbb;have h1:=hcut;clear hcut h0 HPL;obtain⟨pl,hpl⟩:∃l,l=plcL ⟨kind,ix,sub,tg,la,cr,sz,size,code,data,sq,bl,em,sum⟩:=⟨_,rfl⟩;rw[←hpl] at h1;have HPL:=zak hpl;clear hpl;have qm:=h1.m;obtain⟨aP,aQ,aR,aS,aT,aU,aV,aW,aX,aY,aG,aH,aI,aJ⟩:=zde qm;have aZ:=qm.frozen;have qf:=h1.f;have ba:=qf.cell 0 rfl;have bu:=qf.frozen;have zm:=qm.lt;have zf:=qf.lt;have zb:=Blk.lt h1.b;have zbb:=h1.hb;go_upto_block 0 with fail
  go_cut [] (fun wx=>St w wx w1.heap.size (firB f ⟨kind,ix,sub,tg,la,cr,sz,size,code,data,sq,bl,em,sum⟩) (bodL f ⟨kind,ix,sub,tg,la,cr,sz,size,code,data,sq,bl,em,sum⟩) #[.int .i64 kind,.int .i64 (ix:Nat),.int .i64 (sub:Nat),.bool tg,.bool la,.bool cr,.bool sz,.int .u32 (size:Nat),.int .u32 (code:Nat),.slice A n c,.int .i64 (sq:Nat),.int .i64 (bl:Nat),.int .i64 (em:Nat),.int .u16 (sum:Nat)])
  case first=>
   rcases (show f=1∨f=2∨f=3∨f=4∨f=5∨f=6∨f=7∨f=8∨f=9∨f=10∨f=11 by omega) with rfl | rfl | rfl | rfl | rfl | rfl | rfl | rfl | rfl | rfl | rfl
   · have HFB:Hid (firB 1 ⟨kind,ix,sub,tg,la,cr,sz,size,code,data,sq,bl,em,sum⟩=F0∧bodL 1 ⟨kind,ix,sub,tg,la,cr,sz,size,code,data,sq,bl,em,sum⟩=putL pl 4 4 code):=zak ⟨by have h:=HF0.out;have hN:=HN.out;(try simp only[] at hN);simp only[firB];simp[h],by have hN:=HN.out;(try simp only[] at hN);rw[HPL.out];simp only[bodL];simp⟩;go_wp2_with fail
     refine (zf7 4 4 code h1 (U64.small (by omega)) (by omega)).mono ?_;rintro e W1 ⟨rfl,g1⟩;clear zm zf zb;clear aP aQ aR aS aT aU aV aW aX aY aG aH aI aJ aZ;clear ba bu;clear qm qf zbb;have qm:=g1.m;obtain⟨aP,aQ,aR,aS,aT,aU,aV,aW,aX,aY,aG,aH,aI,aJ⟩:=zde qm;have aZ:=qm.frozen;have qf:=g1.f;have ba:=qf.cell 0 rfl;have bu:=qf.frozen;have zm:=qm.lt;have zf:=qf.lt;have zb:=Blk.lt g1.b;have zbb:=g1.hb;go_wp2_with fail
     go_meet
     rw[HFB.out.1,HFB.out.2];exact g1
   · have hn4:n≤4:=by
      have h:=HSH.out;have h2:n=data.length:=HN.out;rw[shapeB,if_pos rfl] at h;simp only[Bool.or_eq_true,Bool.and_eq_true,decide_eq_true_iff] at h;omega
     go_wp2_with fail
     refine (zf8 sz 1 h1 (by omega)).mono ?_;rintro e W1 ⟨rfl,g1⟩;clear zm zf zb;clear aP aQ aR aS aT aU aV aW aX aY aG aH aI aJ aZ;clear ba bu;clear qm qf zbb;have qm:=g1.m;obtain⟨aP,aQ,aR,aS,aT,aU,aV,aW,aX,aY,aG,aH,aI,aJ⟩:=zde qm;have aZ:=qm.frozen;have qf:=g1.f;have ba:=qf.cell 0 rfl;have bu:=qf.frozen;have zm:=qm.lt;have zf:=qf.lt;have zb:=Blk.lt g1.b;have zbb:=g1.hb;go_wp2_with fail
     refine (zf7 4 4 size g1 (U64.small (by omega)) (by omega)).mono ?_;rintro e W2 ⟨rfl,g2⟩;clear zm zf zb;clear aP aQ aR aS aT aU aV aW aX aY aG aH aI aJ aZ;clear ba bu;clear qm qf zbb;have qm:=g2.m;obtain⟨aP,aQ,aR,aS,aT,aU,aV,aW,aX,aY,aG,aH,aI,aJ⟩:=zde qm;have aZ:=qm.frozen;have qf:=g2.f;have ba:=qf.cell 0 rfl;have bu:=qf.frozen;have zm:=qm.lt;have zf:=qf.lt;have zb:=Blk.lt g2.b;have zbb:=g2.hb;by_cases hn0:n=0
     · have HFB:Hid (firB 2 ⟨kind,ix,sub,tg,la,cr,sz,size,code,data,sq,bl,em,sum⟩=orB sz F0 1∧bodL 2 ⟨kind,ix,sub,tg,la,cr,sz,size,code,data,sq,bl,em,sum⟩=putL pl 4 4 size):=zak ⟨by have h:=HF0.out;have hN:=HN.out;(try simp only[] at hN);simp only[firB];simp[h,←hN,hn0],by have hN:=HN.out;(try simp only[] at hN);rw[HPL.out];simp only[bodL];simp[←hN,hn0]⟩;have hn0':(n:Int)≤ 0:=by omega
       clear hn0;go_wp2_with fail
       go_meet
       rw[HFB.out.1,HFB.out.2];exact g2
     · have HFB:Hid (firB 2 ⟨kind,ix,sub,tg,la,cr,sz,size,code,data,sq,bl,em,sum⟩=(orB sz F0 1) ||| (2 ||| ((4 - n) * 4))∧ bodL 2 ⟨kind,ix,sub,tg,la,cr,sz,size,code,data,sq,bl,em,sum⟩=cpL (putL pl 4 4 size) 4 data):=zak ⟨by have h:=HF0.out;have hN:=HN.out;(try simp only[] at hN);simp only[firB];simp[h,←hN,hn0],by have hN:=HN.out;(try simp only[] at hN);rw[HPL.out];simp only[bodL];simp[←hN,hn0]⟩;have hn0':(0:Int) < (n:Int):=by omega
       have hb2:bits BinOp.or IntKind.u8 ((orB sz F0 1:Nat):Int) (bits BinOp.or IntKind.u8 2 ((4 - (n:Int)) * 4))=(((orB sz F0 1) ||| (2 ||| ((4 - n) * 4)):Nat):Int):=by
        have e1:=u8_or_nat 2 ((4 - n) * 4) (by omega) (by omega);have e2:=u8_or_nat (orB sz F0 1) (2 ||| ((4 - n) * 4)) (zf6 hF1 (by omega)) (Nat.or_lt_two_pow (n:=8) (by omega) (by omega));have e3:(((4 - n) * 4:Nat):Int)=(4 - (n:Int)) * 4:=by omega
        rw[e3] at e1;rw[←e2,←e1]
        rfl
       have HB2:=zak hb2;clear hb2 hn0;go_wp2_with fail
       rw[HB2.out];have hlt2:2 ||| ((4 - n) * 4) < 256:=Nat.or_lt_two_pow (n:=8) (by omega) (by omega)
       have g3:=g2.fst (x':=(orB sz F0 1) ||| (2 ||| ((4 - n) * 4))) (Nat.or_lt_two_pow (n:=8) g2.hx hlt2);clear zm zf zb;clear aP aQ aR aS aT aU aV aW aX aY aG aH aI aJ aZ;clear ba bu;clear qm qf zbb;generalize W2.setCell ⟨w.heap.size+1,0,none⟩ (.int .u8 (((orB sz F0 1) ||| (2 ||| ((4 - n) * 4)):Nat):Int))=W3 at *
       have qm:=g3.m;obtain⟨aP,aQ,aR,aS,aT,aU,aV,aW,aX,aY,aG,aH,aI,aJ⟩:=zde qm;have aZ:=qm.frozen;have qf:=g3.f;have ba:=qf.cell 0 rfl;have bu:=qf.frozen;have zm:=qm.lt;have zf:=qf.lt;have zb:=Blk.lt g3.b;have zbb:=g3.hb;obtain⟨W9,hrun,g9,_⟩:=zf9 A n c 4 4 data g3.drew HN.out rfl (by omega) (hsd.out _ g3.drew.be);refine wp_region_held_drew (S:=(fun w'=>w'.cell? ⟨w.heap.size,9,none⟩=some (.slice A n c))) (by kernel_rfl) ?hS1 (fun hHeld=>?rest1)
       case hS1=>((try dsimp only);(exact g3.m.cell 9 rfl))
       case' rest1=>skip
       iterate 3 (refine tkN ?_;try simp only[PqL,Act.put])
       refine kRd 3 (fun K hK=>?_)
       go_simp
       refine hK.out _ _ ?hS7 (fun hHeld=>?rest7)
       case hS7=>((try dsimp only);(exact g9.m.cell 9 rfl))
       case' rest7=>(clear hK K;try simp only[PqL,Act.put])
       refine wpAnyH_done (by kernel_rfl) ?_ _
       repeat (clear hHeld)
       clear zm zf zb;clear aP aQ aR aS aT aU aV aW aX aY aG aH aI aJ aZ;clear ba bu;clear qm qf zbb;go_wp2_with fail
       go_meet
       rw[HFB.out.1,HFB.out.2];exact g9
   · have HFB:Hid (firB 3 ⟨kind,ix,sub,tg,la,cr,sz,size,code,data,sq,bl,em,sum⟩=(orB la (orB tg F0 16) 1) ||| ((7 - n) * 2)∧ bodL 3 ⟨kind,ix,sub,tg,la,cr,sz,size,code,data,sq,bl,em,sum⟩=cpL pl 1 data):=zak ⟨by have h:=HF0.out;have hN:=HN.out;(try simp only[] at hN);simp only[firB];simp[h,←hN],by have hN:=HN.out;(try simp only[] at hN);rw[HPL.out];simp only[bodL];simp[←hN]⟩;have HB3:Hid (bits BinOp.or IntKind.u8 ((orB la (orB tg F0 16) 1:Nat):Int) ((7 - (n:Int)) * 2)=(((orB la (orB tg F0 16) 1) ||| ((7 - n) * 2):Nat):Int)):=zak (by
      have e2:=u8_or_nat (orB la (orB tg F0 16) 1) ((7 - n) * 2) (zf6 (zf6 hF1 (by omega)) (by omega)) (by omega);have e3:(((7 - n) * 2:Nat):Int)=(7 - (n:Int)) * 2:=by omega
      rw[e3] at e2;exact e2)
     go_wp2_with fail
     refine (zf8 tg 16 h1 (by omega)).mono ?_;rintro e W1 ⟨rfl,g1⟩;clear zm zf zb;clear aP aQ aR aS aT aU aV aW aX aY aG aH aI aJ aZ;clear ba bu;clear qm qf zbb;have qm:=g1.m;obtain⟨aP,aQ,aR,aS,aT,aU,aV,aW,aX,aY,aG,aH,aI,aJ⟩:=zde qm;have aZ:=qm.frozen;have qf:=g1.f;have ba:=qf.cell 0 rfl;have bu:=qf.frozen;have zm:=qm.lt;have zf:=qf.lt;have zb:=Blk.lt g1.b;have zbb:=g1.hb;go_wp2_with fail
     refine (zf8 la 1 g1 (by omega)).mono ?_;rintro e W2 ⟨rfl,g2⟩;clear zm zf zb;clear aP aQ aR aS aT aU aV aW aX aY aG aH aI aJ aZ;clear ba bu;clear qm qf zbb;have qm:=g2.m;obtain⟨aP,aQ,aR,aS,aT,aU,aV,aW,aX,aY,aG,aH,aI,aJ⟩:=zde qm;have aZ:=qm.frozen;have qf:=g2.f;have ba:=qf.cell 0 rfl;have bu:=qf.frozen;have zm:=qm.lt;have zf:=qf.lt;have zb:=Blk.lt g2.b;have zbb:=g2.hb;go_wp2_with fail
     rw[HB3.out];have g3:=g2.fst (x':=(orB la (orB tg F0 16) 1) ||| ((7 - n) * 2)) (by first | exact Nat.or_lt_two_pow (n:=8) g2.hx (by omega) | omega);clear zm zf zb;clear aP aQ aR aS aT aU aV aW aX aY aG aH aI aJ aZ;clear ba bu;clear qm qf zbb;generalize W2.setCell ⟨w.heap.size+1,0,none⟩ (.int .u8 (((orB la (orB tg F0 16) 1) ||| ((7 - n) * 2):Nat):Int))=W3 at *
     have qm:=g3.m;obtain⟨aP,aQ,aR,aS,aT,aU,aV,aW,aX,aY,aG,aH,aI,aJ⟩:=zde qm;have aZ:=qm.frozen;have qf:=g3.f;have ba:=qf.cell 0 rfl;have bu:=qf.frozen;have zm:=qm.lt;have zf:=qf.lt;have zb:=Blk.lt g3.b;have zbb:=g3.hb;obtain⟨W9,hrun,g9,_⟩:=zf9 A n c 1 7 data g3.drew HN.out rfl (by omega) (hsd.out _ g3.drew.be);refine wp_region_held_drew (S:=(fun w'=>w'.cell? ⟨w.heap.size,9,none⟩=some (.slice A n c))) (by kernel_rfl) ?hS8 (fun hHeld=>?rest8)
     case hS8=>((try dsimp only);(exact g3.m.cell 9 rfl))
     case' rest8=>skip
     iterate 3 (refine tkN ?_;try simp only[PqL,Act.put])
     refine kRd 3 (fun K hK=>?_)
     go_simp
     refine hK.out _ _ ?hS14 (fun hHeld=>?rest14)
     case hS14=>((try dsimp only);(exact g9.m.cell 9 rfl))
     case' rest14=>(clear hK K;try simp only[PqL,Act.put])
     refine wpAnyH_done (by kernel_rfl) ?_ _
     repeat (clear hHeld)
     clear zm zf zb;clear aP aQ aR aS aT aU aV aW aX aY aG aH aI aJ aZ;clear ba bu;clear qm qf zbb;go_wp2_with fail
     go_meet
     rw[HFB.out.1,HFB.out.2];exact g9
   · have HFB:Hid (firB 4 ⟨kind,ix,sub,tg,la,cr,sz,size,code,data,sq,bl,em,sum⟩=F0∧bodL 4 ⟨kind,ix,sub,tg,la,cr,sz,size,code,data,sq,bl,em,sum⟩=pl):=zak ⟨by have h:=HF0.out;have hN:=HN.out;(try simp only[] at hN);simp only[firB];simp[h],by have hN:=HN.out;(try simp only[] at hN);rw[HPL.out];simp only[bodL];simp⟩;go_wp2_with fail
     go_meet
     rw[HFB.out.1,HFB.out.2];exact h1
   · have HFB:Hid (firB 5 ⟨kind,ix,sub,tg,la,cr,sz,size,code,data,sq,bl,em,sum⟩=orB tg F0 16∧bodL 5 ⟨kind,ix,sub,tg,la,cr,sz,size,code,data,sq,bl,em,sum⟩=pl):=zak ⟨by have h:=HF0.out;have hN:=HN.out;(try simp only[] at hN);simp only[firB];simp[h],by have hN:=HN.out;(try simp only[] at hN);rw[HPL.out];simp only[bodL];simp⟩;go_wp2_with fail
     refine (zf8 tg 16 h1 (by omega)).mono ?_;rintro e W1 ⟨rfl,g1⟩;clear zm zf zb;clear aP aQ aR aS aT aU aV aW aX aY aG aH aI aJ aZ;clear ba bu;clear qm qf zbb;have qm:=g1.m;obtain⟨aP,aQ,aR,aS,aT,aU,aV,aW,aX,aY,aG,aH,aI,aJ⟩:=zde qm;have aZ:=qm.frozen;have qf:=g1.f;have ba:=qf.cell 0 rfl;have bu:=qf.frozen;have zm:=qm.lt;have zf:=qf.lt;have zb:=Blk.lt g1.b;have zbb:=g1.hb;go_wp2_with fail
     go_meet
     rw[HFB.out.1,HFB.out.2];exact g1
   · have HFB:Hid (firB 6 ⟨kind,ix,sub,tg,la,cr,sz,size,code,data,sq,bl,em,sum⟩=orB sz (orB cr F0 4) 2∧bodL 6 ⟨kind,ix,sub,tg,la,cr,sz,size,code,data,sq,bl,em,sum⟩=putL pl 4 4 size):=zak ⟨by have h:=HF0.out;have hN:=HN.out;(try simp only[] at hN);simp only[firB];simp[h],by have hN:=HN.out;(try simp only[] at hN);rw[HPL.out];simp only[bodL];simp⟩;go_wp2_with fail
     refine (zf8 cr 4 h1 (by omega)).mono ?_;rintro e W1 ⟨rfl,g1⟩;clear zm zf zb;clear aP aQ aR aS aT aU aV aW aX aY aG aH aI aJ aZ;clear ba bu;clear qm qf zbb;have qm:=g1.m;obtain⟨aP,aQ,aR,aS,aT,aU,aV,aW,aX,aY,aG,aH,aI,aJ⟩:=zde qm;have aZ:=qm.frozen;have qf:=g1.f;have ba:=qf.cell 0 rfl;have bu:=qf.frozen;have zm:=qm.lt;have zf:=qf.lt;have zb:=Blk.lt g1.b;have zbb:=g1.hb;go_wp2_with fail
     refine (zf8 sz 2 g1 (by omega)).mono ?_;rintro e W2 ⟨rfl,g2⟩;clear zm zf zb;clear aP aQ aR aS aT aU aV aW aX aY aG aH aI aJ aZ;clear ba bu;clear qm qf zbb;have qm:=g2.m;obtain⟨aP,aQ,aR,aS,aT,aU,aV,aW,aX,aY,aG,aH,aI,aJ⟩:=zde qm;have aZ:=qm.frozen;have qf:=g2.f;have ba:=qf.cell 0 rfl;have bu:=qf.frozen;have zm:=qm.lt;have zf:=qf.lt;have zb:=Blk.lt g2.b;have zbb:=g2.hb;go_wp2_with fail
     refine (zf7 4 4 size g2 (U64.small (by omega)) (by omega)).mono ?_;rintro e W3 ⟨rfl,g3⟩;clear zm zf zb;clear aP aQ aR aS aT aU aV aW aX aY aG aH aI aJ aZ;clear ba bu;clear qm qf zbb;have qm:=g3.m;obtain⟨aP,aQ,aR,aS,aT,aU,aV,aW,aX,aY,aG,aH,aI,aJ⟩:=zde qm;have aZ:=qm.frozen;have qf:=g3.f;have ba:=qf.cell 0 rfl;have bu:=qf.frozen;have zm:=qm.lt;have zf:=qf.lt;have zb:=Blk.lt g3.b;have zbb:=g3.hb;go_wp2_with fail
     go_meet
     rw[HFB.out.1,HFB.out.2];exact g3
   · have HFB:Hid (firB 7 ⟨kind,ix,sub,tg,la,cr,sz,size,code,data,sq,bl,em,sum⟩=F0 ||| (em * 4)∧ bodL 7 ⟨kind,ix,sub,tg,la,cr,sz,size,code,data,sq,bl,em,sum⟩=putL pl 1 2 sum):=zak ⟨by have h:=HF0.out;have hN:=HN.out;(try simp only[] at hN);simp only[firB];simp[h],by have hN:=HN.out;(try simp only[] at hN);rw[HPL.out];simp only[bodL];simp⟩;have hb7:bits BinOp.or IntKind.u8 (F0:Int) ((em:Int) * 4)=((F0 ||| em * 4:Nat):Int):=by have:=u8_or_nat F0 (em * 4) hF1 (by omega);push_cast at this;exact this
     go_wp2_with fail
     try rw[hb7]
     clear hb7;have g1:=h1.fst (x':=F0 ||| em * 4) (by first | exact Nat.or_lt_two_pow (n:=8) h1.hx (by omega) | omega);clear zm zf zb;clear aP aQ aR aS aT aU aV aW aX aY aG aH aI aJ aZ;clear ba bu;clear qm qf zbb;generalize wc.setCell ⟨w.heap.size+1,0,none⟩ (.int .u8 ((F0 ||| em * 4:Nat):Int))=W1 at *
     have qm:=g1.m;obtain⟨aP,aQ,aR,aS,aT,aU,aV,aW,aX,aY,aG,aH,aI,aJ⟩:=zde qm;have aZ:=qm.frozen;have qf:=g1.f;have ba:=qf.cell 0 rfl;have bu:=qf.frozen;have zm:=qm.lt;have zf:=qf.lt;have zb:=Blk.lt g1.b;have zbb:=g1.hb;refine (zf7 1 2 sum g1 (U64.small (by omega)) (by omega)).mono ?_;rintro e W2 ⟨rfl,g2⟩;clear zm zf zb;clear aP aQ aR aS aT aU aV aW aX aY aG aH aI aJ aZ;clear ba bu;clear qm qf zbb;have qm:=g2.m;obtain⟨aP,aQ,aR,aS,aT,aU,aV,aW,aX,aY,aG,aH,aI,aJ⟩:=zde qm;have aZ:=qm.frozen;have qf:=g2.f;have ba:=qf.cell 0 rfl;have bu:=qf.frozen;have zm:=qm.lt;have zf:=qf.lt;have zb:=Blk.lt g2.b;have zbb:=g2.hb
     go_wp2_with fail
     go_meet
     rw[HFB.out.1,HFB.out.2];exact g2
   · have HFB:Hid (firB 8 ⟨kind,ix,sub,tg,la,cr,sz,size,code,data,sq,bl,em,sum⟩=orB cr F0 4∧bodL 8 ⟨kind,ix,sub,tg,la,cr,sz,size,code,data,sq,bl,em,sum⟩=putL pl 4 1 bl):=zak ⟨by have h:=HF0.out;have hN:=HN.out;(try simp only[] at hN);simp only[firB];simp[h],by have hN:=HN.out;(try simp only[] at hN);rw[HPL.out];simp only[bodL];simp⟩;go_wp2_with fail
     refine (zf8 cr 4 h1 (by omega)).mono ?_;rintro e W1 ⟨rfl,g1⟩;clear zm zf zb;clear aP aQ aR aS aT aU aV aW aX aY aG aH aI aJ aZ;clear ba bu;clear qm qf zbb;have qm:=g1.m;obtain⟨aP,aQ,aR,aS,aT,aU,aV,aW,aX,aY,aG,aH,aI,aJ⟩:=zde qm;have aZ:=qm.frozen;have qf:=g1.f;have ba:=qf.cell 0 rfl;have bu:=qf.frozen;have zm:=qm.lt;have zf:=qf.lt;have zb:=Blk.lt g1.b;have zbb:=g1.hb;go_wp2_with fail
     refine (zf7 4 1 bl g1 (U64.small (by omega)) (by omega)).mono ?_;rintro e W2 ⟨rfl,g2⟩;clear zm zf zb;clear aP aQ aR aS aT aU aV aW aX aY aG aH aI aJ aZ;clear ba bu;clear qm qf zbb;have qm:=g2.m;obtain⟨aP,aQ,aR,aS,aT,aU,aV,aW,aX,aY,aG,aH,aI,aJ⟩:=zde qm;have aZ:=qm.frozen;have qf:=g2.f;have ba:=qf.cell 0 rfl;have bu:=qf.frozen;have zm:=qm.lt;have zf:=qf.lt;have zb:=Blk.lt g2.b;have zbb:=g2.hb;go_wp2_with fail
     go_meet
     rw[HFB.out.1,HFB.out.2];exact g2
   · have HFB:Hid (firB 9 ⟨kind,ix,sub,tg,la,cr,sz,size,code,data,sq,bl,em,sum⟩=F0∧bodL 9 ⟨kind,ix,sub,tg,la,cr,sz,size,code,data,sq,bl,em,sum⟩=putL (putL pl 1 1 sq) 2 1 bl):=zak ⟨by have h:=HF0.out;have hN:=HN.out;(try simp only[] at hN);simp only[firB];simp[h],by have hN:=HN.out;(try simp only[] at hN);rw[HPL.out];simp only[bodL];simp⟩;go_wp2_with fail
     refine (zf7 1 1 sq h1 (U64.small (by omega)) (by omega)).mono ?_;rintro e W1 ⟨rfl,g1⟩;clear zm zf zb;clear aP aQ aR aS aT aU aV aW aX aY aG aH aI aJ aZ;clear ba bu;clear qm qf zbb;have qm:=g1.m;obtain⟨aP,aQ,aR,aS,aT,aU,aV,aW,aX,aY,aG,aH,aI,aJ⟩:=zde qm;have aZ:=qm.frozen;have qf:=g1.f;have ba:=qf.cell 0 rfl;have bu:=qf.frozen;have zm:=qm.lt;have zf:=qf.lt;have zb:=Blk.lt g1.b;have zbb:=g1.hb;go_wp2_with fail
     refine (zf7 2 1 bl g1 (U64.small (by omega)) (by omega)).mono ?_;rintro e W2 ⟨rfl,g2⟩;clear zm zf zb;clear aP aQ aR aS aT aU aV aW aX aY aG aH aI aJ aZ;clear ba bu;clear qm qf zbb;have qm:=g2.m;obtain⟨aP,aQ,aR,aS,aT,aU,aV,aW,aX,aY,aG,aH,aI,aJ⟩:=zde qm;have aZ:=qm.frozen;have qf:=g2.f;have ba:=qf.cell 0 rfl;have bu:=qf.frozen;have zm:=qm.lt;have zf:=qf.lt;have zb:=Blk.lt g2.b;have zbb:=g2.hb;go_wp2_with fail
     go_meet
     rw[HFB.out.1,HFB.out.2];exact g2
   · have HFB:Hid (firB 10 ⟨kind,ix,sub,tg,la,cr,sz,size,code,data,sq,bl,em,sum⟩=F0∧bodL 10 ⟨kind,ix,sub,tg,la,cr,sz,size,code,data,sq,bl,em,sum⟩=pl):=zak ⟨by have h:=HF0.out;have hN:=HN.out;(try simp only[] at hN);simp only[firB];simp[h],by have hN:=HN.out;(try simp only[] at hN);rw[HPL.out];simp only[bodL];simp⟩;go_wp2_with fail
     go_meet
     rw[HFB.out.1,HFB.out.2];exact h1
   · have HFB:Hid (firB 11 ⟨kind,ix,sub,tg,la,cr,sz,size,code,data,sq,bl,em,sum⟩=orB la sq 128∧bodL 11 ⟨kind,ix,sub,tg,la,cr,sz,size,code,data,sq,bl,em,sum⟩=cpL pl 1 data):=zak ⟨by have h:=HF0.out;have hN:=HN.out;(try simp only[] at hN);simp only[firB];simp[h],by have hN:=HN.out;(try simp only[] at hN);rw[HPL.out];simp only[bodL];simp⟩;go_wp2_with fail
     have g1:=h1.fst (x':=sq) (by first | exact Nat.or_lt_two_pow (n:=8) h1.hx (by omega) | omega);clear zm zf zb;clear aP aQ aR aS aT aU aV aW aX aY aG aH aI aJ aZ;clear ba bu;clear qm qf zbb;generalize wc.setCell ⟨w.heap.size+1,0,none⟩ (.int .u8 ((sq:Nat):Int))=W1 at *
     have qm:=g1.m;obtain⟨aP,aQ,aR,aS,aT,aU,aV,aW,aX,aY,aG,aH,aI,aJ⟩:=zde qm;have aZ:=qm.frozen;have qf:=g1.f;have ba:=qf.cell 0 rfl;have bu:=qf.frozen;have zm:=qm.lt;have zf:=qf.lt;have zb:=Blk.lt g1.b;have zbb:=g1.hb;refine (zf8 la 128 g1 (by omega)).mono ?_;rintro e W2 ⟨rfl,g2⟩;clear zm zf zb;clear aP aQ aR aS aT aU aV aW aX aY aG aH aI aJ aZ;clear ba bu;clear qm qf zbb;have qm:=g2.m;obtain⟨aP,aQ,aR,aS,aT,aU,aV,aW,aX,aY,aG,aH,aI,aJ⟩:=zde qm;have aZ:=qm.frozen;have qf:=g2.f;have ba:=qf.cell 0 rfl;have bu:=qf.frozen;have zm:=qm.lt;have zf:=qf.lt;have zb:=Blk.lt g2.b;have zbb:=g2.hb;go_wp2_with fail
     obtain⟨W9,hrun,g9,_⟩:=zf9 A n c 1 7 data g2.drew HN.out rfl (by omega) (hsd.out _ g2.drew.be);refine wp_region_held_drew (S:=(fun w'=>w'.cell? ⟨w.heap.size,9,none⟩=some (.slice A n c))) (by kernel_rfl) ?hS15 (fun hHeld=>?rest15)
     case hS15=>((try dsimp only);(exact g2.m.cell 9 rfl))
     case' rest15=>skip
     iterate 3 (refine tkN ?_;try simp only[PqL,Act.put])
     refine kRd 3 (fun K hK=>?_)
     go_simp
     refine hK.out _ _ ?hS21 (fun hHeld=>?rest21)
     case hS21=>((try dsimp only);(exact g9.m.cell 9 rfl))
     case' rest21=>(clear hK K;try simp only[PqL,Act.put])
     refine wpAnyH_done (by kernel_rfl) ?_ _
     repeat (clear hHeld)
     clear zm zf zb;clear aP aQ aR aS aT aU aV aW aX aY aG aH aI aJ aZ;clear ba bu;clear qm qf zbb;go_wp2_with fail
     go_meet
     rw[HFB.out.1,HFB.out.2];exact g9
  case rest=>
   clear zm zf zb;clear aP aQ aR aS aT aU aV aW aX aY aG aH aI aJ aZ;clear ba bu;clear qm qf zbb;have h2:=hcut;clear hcut h1 HPL;obtain⟨x,hx⟩:∃x,x=firB f ⟨kind,ix,sub,tg,la,cr,sz,size,code,data,sq,bl,em,sum⟩:=⟨_,rfl⟩;obtain⟨l,hl⟩:∃l,l=bodL f ⟨kind,ix,sub,tg,la,cr,sz,size,code,data,sq,bl,em,sum⟩:=⟨_,rfl⟩;rw[←hx,←hl] at h2;have HLL:Hid (laidB ⟨kind,ix,sub,tg,la,cr,sz,size,code,data,sq,bl,em,sum⟩=l.set 0 (UInt8.ofNat x)):=zak (by rw[HLD.out,hx,hl]);clear hx hl HLD;have qm:=h2.m;obtain⟨aP,aQ,aR,aS,aT,aU,aV,aW,aX,aY,aG,aH,aI,aJ⟩:=zde qm;have aZ:=qm.frozen;have qf:=h2.f;have ba:=qf.cell 0 rfl;have bu:=qf.frozen
   have zm:=qm.lt;have zf:=qf.lt;have zb:=Blk.lt h2.b;have zbb:=h2.hb;obtain⟨hb0,hbf⟩:=h2.b.at8 0 (by rw[h2.hl];omega);have hbv:bv (UInt8.ofNat x)= .int .u8 (x:Nat):=by
    have:=h2.hx
    simp only[bv,UInt8.toNat_ofNat']
    congr 1
    omega
   have h3:=h2.byte 0 (UInt8.ofNat x);rw[hbv] at h3;have HLE:=zak h2.hl;have HS3:=zak (Blk.sl h3.b);clear hbv;go_wp2_with (at_builtin;refine zdw _ rfl _ _ rfl w.heap.size none 0 0 [] rfl (zdv.nil _ _) (some ⟨w1.heap.size,0,none⟩) 8 8 (l.set 0 (UInt8.ofNat x)) rfl (by simp[HLE.out]) (by have:=HS3.out;simpa using this) (by omega) h3.be.size 8 (by omega) ?_;intro A3 c3 w3 hO3 _ _ hb3)
   exact HB.out _ _ ⟨_,_,_,rfl,by rw[HLL.out];exact hO3,h3.be.trans hb3⟩
end
end Go.Proofs.YtkkpjbjmhaecjaaGreat
