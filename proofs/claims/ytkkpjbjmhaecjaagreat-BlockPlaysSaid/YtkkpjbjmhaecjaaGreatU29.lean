/- None -/
import Derived.Test.YtkkpjbjmhaecjaaGreatU28
namespace Go.Proofs.YtkkpjbjmhaecjaaGreat
set_option linter.all false
set_option maxRecDepth 100000
set_option maxHeartbeats 4000000
section
def brS (L:List Ent) (V:List (List UInt8)) (S:BlkS) (M:Ms):BlkS:=
 if M.kind=1 then blkIdle S else if M.kind=6 then bdownS L (blkIdle S) M else if M.kind=8 then bupS L V (blkIdle S) M else
 if S.st=0∨S.st=3 then blkIdle S else
 if M.kind=21∧S.st=1 then bpartS S M else if M.kind=7∧S.st=2 then bendS S M else if M.kind=9∧S.st=4 then bgiveS S else if M.kind=10∧S.st=5 then backS S M else blkIdle S
def brO (L:List Ent) (V:List (List UInt8)) (S:BlkS) (M:Ms):SegO:=
 if M.kind=1 then outZ else if M.kind=6 then bdownO L M else if M.kind=8 then bupO L V M else
 if S.st=0∨S.st=3 then outM (abM 0 0 84148225) else
 if M.kind=21∧S.st=1 then bpartO S M else if M.kind=7∧S.st=2 then bendO S M else if M.kind=9∧S.st=4 then outL (bgiveL S) else if M.kind=10∧S.st=5 then backO S M else
 if M.kind=11∧S.st=6 then outZ else outM (abM S.ix S.sub 84148225)
structure BWf (S:BlkS):Prop where
 mo:0≤S.mo∧S.mo≤256
 nx:0≤S.nx∧S.nx≤100
 b12:S.st=1∨S.st=2→(S.b.length:Int)≤ S.mo+7
 b4:S.st=4→S.ha=0∧S.b.length≤256∧0≤S.ta∧S.ta≤1000
 b5:S.st=5→S.b.length≤256∧0≤S.ha∧S.ha < btotal S.b∧S.ha+S.ro≤btotal S.b
structure BMOk (M:Ms):Prop where
 size:M.size≤4294967295
 em:0≤M.em∧M.em≤1000
 bl:0≤M.bl∧M.bl≤1000
 sq:0≤M.sq∧M.sq≤1000
theorem zkw (E:Ent):0≤mostE E∧mostE E≤256:=by
 unfold mostE tySize
 (repeat' split)<;> omega
theorem zkx {L:List Ent}{V:List (List UInt8)}(hv:∀v ∈ V,v.length≤256)(ix sub:Int):(getB L V ix sub).length≤256:=by
 unfold getB;split
 · unfold valK;rw[List.getD_eq_getElem?_getD];cases hx:V[locK L ix sub]? with
   | none=>simp
   | some v=>exact hv v (List.mem_of_getElem? hx)
 · simp
theorem zky (b:List UInt8):0 < btotal b:=by unfold btotal;omega
theorem BWf.idle {S S':BlkS}(h:BWf S)(h0:S'.st=0∨S'.st=3∨S'.st=6)(hm:S'.mo=S.mo)(hn:S'.nx=S.nx):BWf S':=
 ⟨by rw[hm];exact h.mo,by rw[hn];exact h.nx,fun h1=>by omega,fun h1=>by omega,fun h1=>by omega⟩
theorem bwf_z:BWf blkZ:=⟨by decide,by decide,by decide,by decide,by decide⟩
theorem zkz {S:BlkS}(h:BWf S):BWf (blkIdle S):=h.idle (.inl rfl) rfl rfl
theorem zk0 {S:BlkS}(h:BWf S)(hb:S.b.length≤256)(h0:0≤S.ha)(ht:S.ha < btotal S.b):BWf (bgiveS S):=
 ⟨h.mo,h.nx,fun h1=>absurd h1 (show ¬((5:Int)=1∨(5:Int)=2) by decide),fun h1=>absurd h1 (show ¬((5:Int)=4) by decide),fun _=>⟨hb,h0,ht,by show S.ha+browN S≤btotal S.b;unfold browN;omega⟩⟩
theorem zk6 {L:List Ent}{V:List (List UInt8)}{S:BlkS}{M:Ms}(hv:∀v ∈ V,v.length≤256)(h:BWf S)(hM:BMOk M):BWf (brS L V S M):=by
 unfold brS;split
 · exact zkz h
 split
 · unfold bdownS;split
   · exact zkz h
   · exact⟨zkw _,⟨show (0:Int)≤ 1 by decide,show (1:Int)≤ 100 by decide⟩,fun _=>by have:=(zkw (entK L (locK L M.ix M.sub))).1;show ((([]:List UInt8)).length:Int)≤ mostE (entK L (locK L M.ix M.sub))+7;simp;omega,fun h1=>absurd h1 (show ¬((1:Int)=4) by decide),fun h1=>absurd h1 (show ¬((1:Int)=5) by decide)⟩
 split
 · unfold bupS;split
   · exact zkz h
   · exact⟨h.mo,h.nx,fun h1=>absurd h1 (show ¬((4:Int)=1∨(4:Int)=2) by decide),fun _=>⟨rfl,zkx hv _ _,hM.bl⟩,fun h1=>absurd h1 (show ¬((4:Int)=5) by decide)⟩
 split
 · exact zkz h
 split
 · rename_i hk;have h1:=h.b12 (.inl hk.2);have hx:=h.nx;have hq:=hM.sq;unfold bpartS;split
   · exact h.idle (.inl rfl) rfl rfl
   rename_i h16;have hT:(btake S M).mo=S.mo∧(0≤(btake S M).nx∧(btake S M).nx≤100)∧ (bpcode S M=0→((btake S M).b.length:Int)≤ S.mo+7)∧ ((btake S M).st=1∨(btake S M).st=2):=by
    unfold btake;split
    · rename_i he;refine⟨rfl,⟨show 0≤S.nx+1 by omega,show S.nx+1≤100 by omega⟩,fun hc=>?_,?_⟩
      · show ((S.b ++ M.data).length:Int)≤ S.mo+7;unfold bpcode at hc;rw[if_neg h16] at hc;split at hc
        · omega
        · rename_i h4
          have: ¬S.mo+7 < ((S.b ++ M.data).length:Int):=fun h5=>h4 ⟨he,h5⟩
          omega
      · show (if M.la=true then (2:Int) else 1)=1∨(if M.la=true then (2:Int) else 1)=2;split
        · exact .inr rfl
        · exact .inl rfl
    · exact⟨rfl,hx,fun _=>h1,.inl hk.2⟩
   obtain⟨t1,t2,t3,t4⟩:=hT;have hmo:=h.mo;split
   · exact⟨by show 0≤(btake S M).mo∧(btake S M).mo≤256;rw[t1];exact hmo,t2,fun h9=>absurd h9 (show ¬((0:Int)=1∨(0:Int)=2) by decide),fun h9=>absurd h9 (show ¬((0:Int)=4) by decide),fun h9=>absurd h9 (show ¬((0:Int)=5) by decide)⟩
   rename_i hc;have hc:bpcode S M=0:=by omega
   split
   · exact⟨by rw[t1];exact hmo,t2,fun _=>by rw[t1];exact t3 hc,fun h9=>by omega,fun h9=>by omega⟩
   · exact⟨by show 0≤(btake S M).mo∧(btake S M).mo≤256;rw[t1];exact hmo,⟨show (0:Int)≤ 1 by decide,show (1:Int)≤ 100 by decide⟩,fun _=>by show ((btake S M).b.length:Int)≤ (btake S M).mo+7;rw[t1];exact t3 hc,fun h9=>by have:(btake S M).st=4:=h9;omega,fun h9=>by have:(btake S M).st=5:=h9;omega⟩
 split
 · unfold bendS;split
   · exact h.idle (.inl rfl) rfl rfl
   · exact h.idle (.inr (.inl rfl)) rfl rfl
 split
 · rename_i hk;have h4:=h.b4 hk.2;refine zk0 h h4.2.1 (by omega) ?_
   have:=zky S.b
   omega
 split
 · rename_i hk;have h5:=h.b5 hk.2;have hq:=hM.sq;unfold backS;split
   · exact h.idle (.inl rfl) rfl rfl
   split
   · rename_i hlt;have hha:(backS1 S M).ha=S.ha+M.sq:=rfl;have hbr:browN (backS1 S M)≤ (btotal S.b:Int) - (S.ha+M.sq):=by unfold browN backS1;dsimp only;omega
     exact⟨h.mo,h.nx,fun h9=>absurd h9 (show ¬((5:Int)=1∨(5:Int)=2) by decide),fun h9=>absurd h9 (show ¬((5:Int)=4) by decide),fun _=>⟨h5.1,show 0≤S.ha+M.sq by omega,hlt,show S.ha+M.sq+browN (backS1 S M)≤ btotal S.b by omega⟩⟩
   · exact h.idle (.inr (.inr rfl)) rfl rfl
 · exact zkz h
end
section
open Go.RowKit Go.Maps
def rbUpS (L:List Ent) (V:List (List UInt8)) (S:BlkS) (M:Ms):BlkS:=if bucode L M≠0 then S else { S with st:=4,ix:=M.ix,sub:=M.sub,b:=getB L V M.ix M.sub,sm:=M.cr,ha:=0,ta:=M.bl }
theorem zk7 {W:World}{B n c g:Nat}{A:Option Addr}{l:List UInt8}(h:zbs W B A n c l)(hg:g < B):∀ad,A=some ad→ad.block≠g:=by
 intro ad e;rcases h.own.shape with ⟨rfl,_⟩ | ⟨q,rfl,h1,h2⟩
 · simp at e
 · injection e with e
   subst e;show q≠g;omega
section
variable {F:Nat→Prop} {pd n cl cv:Nat} {Al Av:Option Addr} {L:List Ent} {V:List (List UInt8)} {ds es:List (Option Addr×Nat)}
theorem zk8 (p:Nat)(S:BlkS)(G:Nat→Prop)(M:Ms)(A3:Option Addr)(m3 c3:Nat)(w:World)(hD:DB 106 w F pd Al n cl Av cv L V ds es)(hn:n≤1000)(hv:∀v ∈ V,v.length≤256)(hp: ¬F p)(hS:RBV w G p pd S) :
 Calls Tryz.prog 111 #[.pointer (some ⟨p,0,none⟩),.agg (msV M A3 m3 c3)] w (RBO w G p pd (rbUpS L V S M) (bupO L V M)):=by
 obtain⟨A,n1,c1,hR⟩:=hS.rn;obtain⟨P,hP⟩:∃P,P=RBO w G p pd (rbUpS L V S M) (bupO L V M):=⟨_,rfl⟩;rw[←hP];have HP:=zak hP;have hz:=hR.lt;have H1:=zak hn;have HGL:Hid ((getB L V M.ix M.sub).length≤256):=zak (zkx hv _ _);have HRW:Hid (∀ad,A=some ad→ad.block≠w.heap.size+1):=zak (fun ad e=>by have:=((hR.rows _ (List.mem_singleton.2 rfl)).2.2.2 ad e).2.1;omega);have HD:=zak (fun W (h:zbv (fun q=>q=p) w W)=> hD.keep (w':=W) (fun g hg hlt=>h.block g hlt (fun e=>hp (e ▸ hg))));have HH:=zak (hR.new2 rfl 30 118 (msL_ M A3 m3 c3) (outL_ none 0 0 outZ none 0 0));clear hP hS hR hD hn hv;unfold msL_ outL_ outZ at HH
 unfold msV;go_enter Tryz.func111,Tryz.ntmps111
 go_upto_region 1 with fail
 refine zb6 (P:=fun W=>RN w G p (rbkL S pd A n1 c1) [⟨w.heap.size+1,118,outL_ none 0 0 outZ none 0 0⟩,⟨w.heap.size,30,msL_ M A3 m3 c3⟩] [⟨A,n1,c1,S.b⟩] W) HH.out (fun W hW=>?_);clear HH;have HX:=zak hW;have k1:=hW.k1;have kk:=hW.k0;have bb:=hW.blk;have hwz:w.heap.size+2≤W.heap.size:=by have:=hW.k0.lt;show _+1 < _;exact this
 have HDW:=zak (HD.out W hW.only);have hne0:w.heap.size≠p:=by omega
 have hne1:w.heap.size+1≠p:=by omega
 clear hW HD;unfold msL_ at k1;unfold outL_ outZ at kk;unfold rbkL at bb;have zk1:=k1.lt;have zkk:=kk.lt;have zp:=bb.lt;obtain⟨am,ai,aj,an,ah,ak,al,ao,ap,aq,aa,ab,ac,ae⟩:=zbd k1;have aD:=k1.frozen;obtain⟨aK,aL,aM,aN,aO⟩:=za9 kk;have aQ:=kk.frozen;obtain⟨ar,au,av,aw,ax,ay,az,aA,aB,aC,af,ag⟩:=zbc bb;have aE:=bb.frozen;by_cases hb0:M.bl=0
 · have hbe:(M.bl == 0)=true:=by simp[hb0]
   have HND:Hid (rbUpS L V S M=S):=zak (by unfold rbUpS bucode;rw[if_pos hb0,if_pos (by decide)]);have HR:Hid (P=RBO w G p pd S (outM (abM M.ix M.sub 84148226))):=zak (by
    rw[HP.out,HND.out]
    congr 1
    unfold bupO bucode;rw[if_pos hb0,if_pos (by decide)]
    rfl)
   clear hb0;go_wp2_with fail
   refine (zks M A3 m3 c3 84148226 _).mono ?_;rintro e w8 ⟨g8,hg8,rfl,hM8,hb8⟩;unfold outV outZ;try dsimp only
   have HX8:=zak (HX.out.step hb8);have zg8:w.heap.size+2≤g8:=by omega
   have HM8:=zak hM8;have k2:=HX8.out.k0;unfold outL_ outZ at k2;have zk2:=k2.lt;clear aK aL aM aN aO aQ;obtain⟨aF,aG,aH,aI,aJ⟩:=za9 k2;have aP:=k2.frozen;clear hM8 hb8;go_wp2_with fail
   obtain⟨F1,F2⟩:=zkt (ks:=[]) (HX8.out.sub (by simp)) (by simp) (fun r hr=>by simp at hr;subst hr;exact HRW.out) HM8.out zg8 (zbs.nil _ _);rw[←HR.out] at F2;unfold putO outZ at F1 F2;dsimp only at F1 F2;exact zkf (O:=outZ) rfl rfl rfl F1 F2
 · have hbe:(M.bl == 0)=false:=by simp[hb0]
   have HB0:=zak hb0;clear hb0;go_upto_region 3 with fail
   refine wp_region_held_drew (S:=(fun w'=>(∀qA:Addr,qA.block < (W).heap.size→w'.cell? qA=(W).cell? qA)∧ Below (W).heap.size (W) w')) (by kernel_rfl) ?hS1 (fun hHeld=>?rest1)
   case hS1=>exact kSn
   case' rest1=>skip
   iterate 8 (refine tkN ?_;try simp only[PqL,Act.put])
   refine kRd 8 (fun K hK=>?_)
   go_simp
   refine (zj3 M.ix M.sub _ (HDW.out.below (Below.drew (Below.refl _ _))) H1.out).mono ?_;rintro e w2 ⟨A4,n4,c4,b,rfl,hO4,hb4,hb2⟩;have HO4:=zak (hO4.mono (B':=w.heap.size+2) hwz);have HB4:=zak hb4;clear hO4 hb4;dsimp only;refine hK.out _ _ ?hS12 (fun hHeld=>?rest12)
   case hS12=>exact kSn
   case' rest12=>(clear hK K;try simp only[PqL,Act.put])
   refine tkH 9 ?_;try simp only[PqL,Act.put]
   refine tkH 10 ?_;try simp only[PqL,Act.put]
   refine tkH 11 ?_;try simp only[PqL,Act.put]
   refine tkH 12 ?_;try simp only[PqL,Act.put]
   refine tkH 13 ?_;try simp only[PqL,Act.put]
   refine wpAnyH_done (by kernel_rfl) ?_ _;have hEnd:=hHeld.2
   repeat (clear hHeld)
   have HX2:=zak (HX.out.step hEnd);have hwz2:w.heap.size+2≤w2.heap.size:=Nat.le_trans hwz hEnd.size;clear am ai aj an ah ak al ao ap aq aa ab ac ae aD;clear aK aL aM aN aO aQ;clear ar au av aw ax ay az aA aB aC af ag aE;clear k1 kk bb zk1 zkk zp hb2 hEnd HX HDW;have k1:=HX2.out.k1;have kk:=HX2.out.k0;have bb:=HX2.out.blk;unfold msL_ at k1;unfold outL_ outZ at kk;unfold rbkL at bb;have zk:=k1.lt;have zkk:=kk.lt;have zb:=bb.lt;obtain⟨am,ai,aj,an,ah,ak,al,ao,ap,aq,aa,ab,ac,ae⟩:=zbd k1;have aD:=k1.frozen;obtain⟨aK,aL,aM,aN,aO⟩:=za9 kk;have aQ:=kk.frozen;obtain⟨ar,au,av,aw,ax,ay,az,aA,aB,aC,af,ag⟩:=zbc bb
   have aE:=bb.frozen;obtain⟨cc,hcc⟩:=zic L M.ix M.sub;rw[hcc] at HB4 ⊢;by_cases hc:cc=0
   · have hgc:getC L M.ix M.sub=0:=by rw[hcc,hc];rfl
     have hgb:getB L V M.ix M.sub=b:=by unfold getB;rw[HB4.out,hgc,hc];rfl
     have hbc:bucode L M=0:=by unfold bucode;rw[if_neg HB0.out,hgc]
     have hb256:n4≤256:=by have h1:=HO4.out.hn;have h2:=HGL.out;rw[hgb] at h2;omega
     have HN4:=zak HO4.out.hn;have hmod:(n4:Int) % 4294967296=(n4:Int):=by omega
     subst hc;have X9:RN w G p (rbkL { S with st:=4,ix:=M.ix,sub:=M.sub,b:=b,sm:=M.cr,ha:=0,ta:=M.bl } pd A4 n4 c4) [⟨w.heap.size+1,118,outL_ none 0 0 outZ none 0 0⟩] [⟨A4,n4,c4,b⟩] _:=((((((((HX2.out.row (HO4.out.mono (B':=w.heap.size) (by omega))).set 1 (.int .i64 4)).set 2 (.int .i64 M.ix)).set 3 (.int .i64 M.sub)).set 6 (.slice A4 n4 c4)).set 7 (.bool M.cr)).set 9 (.int .i64 0)).set 10 (.int .i64 M.bl)).sub (ks':=[⟨w.heap.size+1,118,outL_ none 0 0 outZ none 0 0⟩]) (by simp) |>.subr (rs':=[⟨A4,n4,c4,b⟩]) (by simp)
     have HX9:=zak X9;have HND:Hid (rbUpS L V S M= { S with st:=4,ix:=M.ix,sub:=M.sub,b:=b,sm:=M.cr,ha:=0,ta:=M.bl }):=zak (by unfold rbUpS;rw[if_neg (by rw[hbc];simp),hgb]);have HR:Hid (P=RBO w G p pd (rbUpS L V S M) (outM (bupM M.ix M.sub n4))):=zak (by
      rw[HP.out]
      congr 1
      unfold bupO;rw[if_neg (by rw[hbc];simp),hgb,HN4.out])
     clear X9 hgc hgb hbc hcc;go_wp2_with fail
     obtain⟨F1,F2⟩:=zku (ks:=[]) (M:=bupM M.ix M.sub n4) (N:=w2.heap.size) HX9.out (by simp) (fun r hr=>by simp at hr;subst hr;exact zk7 HO4.out (by omega)) (by simp[World.setCell]) hwz2 rfl;rw[←HND.out,←HR.out] at F2;unfold putO outZ msV bupM at F1 F2;dsimp only at F1 F2;exact zkf (O:=outZ) rfl rfl rfl F1 F2
   · have hbc:bucode L M=(cc:Int):=by unfold bucode;rw[if_neg HB0.out,hcc]
     have HND:Hid (rbUpS L V S M=S):=zak (by unfold rbUpS;rw[if_pos (by rw[hbc];omega)]);have HR:Hid (P=RBO w G p pd S (outM (abM M.ix M.sub cc))):=zak (by
      rw[HP.out,HND.out]
      congr 1
      unfold bupO;rw[if_pos (by rw[hbc];omega),hbc]
      rfl)
     have hkz: ¬(cc:Int)=0:=by omega
     clear hbc hcc hc;go_wp2_with fail
     refine (zks M A3 m3 c3 cc _).mono ?_;rintro e w8 ⟨g8,hg8,rfl,hM8,hb8⟩;unfold outV outZ;try dsimp only
     have HX8:=zak (HX2.out.step hb8);have zg8:w.heap.size+2≤g8:=by omega
     have HM8:=zak hM8;have k2:=HX8.out.k0;unfold outL_ outZ at k2;have zk2:=k2.lt;clear aK aL aM aN aO aQ;obtain⟨aF,aG,aH,aI,aJ⟩:=za9 k2;have aP:=k2.frozen;clear hM8 hb8;go_wp2_with fail
     obtain⟨F1,F2⟩:=zkt (ks:=[]) (HX8.out.sub (by simp)) (by simp) (fun r hr=>by simp at hr;subst hr;exact HRW.out) HM8.out zg8 (zbs.nil _ _);rw[←HR.out] at F2;unfold putO outZ at F1 F2;dsimp only at F1 F2;exact zkf (O:=outZ) rfl rfl rfl F1 F2
end
end
end Go.Proofs.YtkkpjbjmhaecjaaGreat
