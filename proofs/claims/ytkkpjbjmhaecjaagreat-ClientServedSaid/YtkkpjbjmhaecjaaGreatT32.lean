/- None -/
import Derived.Test.YtkkpjbjmhaecjaaGreatT31
namespace Go.Proofs.YtkkpjbjmhaecjaaGreat
set_option linter.all false
set_option maxRecDepth 100000
set_option maxHeartbeats 8000000
section
open Go.RowKit Go.Maps
theorem zn2 {w:World}{g:Nat}{t:TypeId}{cs:Array Value}{vs:List Value}(h:Blk w g t cs)(h1:cs.size=14)(h2:vs.length=14):Blk (w.setCells g 0 vs) g t vs.toArray:=by
 have s:=zea vs 0 (l:=cs.toList) (by simpa using h) (by simp[h1,h2]);have e:cs.toList.take 0 ++ vs ++ cs.toList.drop (0+vs.length)=vs:=by
  rw[h2,List.drop_of_length_le (by simp[h1])]
  simp
 rw[e] at s;exact s
theorem zn3:(Tryz.prog.info? 95).map (·.size)=some 14:=by kernel_rfl
theorem zn4 {fn:Func}{p u:Tmp}(h:fn.results= #[.cell p 95,.tmp u]){a:Act}{w:World}{g:Nat}{M:Ms}{A:Option Addr}{n c:Nat}{v:Value}{R:Ending→World→Prop}(hd:a.defers= [])(hp:a.tmps.getD p undef= .pointer (some ⟨g,0,none⟩))
 (hB:Blk w g 95 (msV M A n c)) (hu:a.tmps.getD u undef=v) (hR:R (.returned (.tuple #[.agg (msV M A n c),v])) w):bodyPost Tryz.prog fn R .ret a w:=by
 subst hu;refine bodyPost_ret ?_ hd hR;rw[results_cell_tmp h,hp];simp only[asAddr,Sem.run_pure,Result.andThen_ok];rw[run_loadVar_row w g _ _ _ _ _ hB Tryz.underlying95 rfl zn3]
 rfl
section
variable {w:World} {G:Nat→Prop} {p ps pb pd:Nat} {X:SdoS}
def sdKs (X:SdoS) (b:List UInt8):List Int:=if X.bk.st=1∧b.headD 0≠128 then segK else reqK
def sdRc (X:SdoS) (b:List UInt8):Nat:=if errI (sdKs X b) b=0 then 0 else if X.bk.st=1∧b.headD 0≠128 then 84148227 else 84148225
def SRdR (X:SdoS) (b:List UInt8) (w:World) (e:Ending) (w':World):Prop:=
 ∃A' n' c',e= .returned (.tuple #[.agg (msV (resM (sdKs X b) b) A' n' c'),.int .u32 (sdRc X b:Nat)])∧ zdv w' w.heap.size A' n' c' (resM (sdKs X b) b).data∧Below w.heap.size w w'
theorem zn5 (A:Option Addr)(n c:Nat)(b:List UInt8)(h:DV w G p ps pb pd X)(hn:n=b.length)(h8:b.length=8)(hc:n≤c)(hs:Sl w A (b.map bv)):Calls Tryz.prog 123 #[.pointer (some ⟨p,0,none⟩),.slice A n c] w (SRdR X b w):=by
 obtain⟨A',n',c',hB'⟩:=h.bkv.blk_;obtain⟨P,hP⟩:∃P,P=SRdR X b w:=⟨_,rfl⟩;have hno:∀ks (cd:Nat) M A4 n4 c4 W,sdKs X b=ks→M=resM ks b→sdRc X b=cd→zdv W w.heap.size A4 n4 c4 M.data→Below w.heap.size w W→P (.returned (.tuple #[.agg (msV M A4 n4 c4),.int .u32 (cd:Nat)])) W:=by
  intro ks cd M A4 n4 c4 W h1 h2 h3 h4 h5;rw[hP];subst h1;subst h2;subst h3;exact⟨A4,n4,c4,rfl,h4,h5⟩
 rw[←hP];have HE:=zak hno;clear hP hno;have c1:w.cell? ⟨p,1,none⟩=some (.pointer (some ⟨pb,0,none⟩)):=h.blk.cell 1 rfl;have HQ0:=zak (And.intro (Blk.new w 95 #[.int .i64 0,.int .i64 0,.int .i64 0,.bool false,.bool false,.bool false,.bool false,.int .u32 0,.int .u32 0,.slice none 0 0,.int .i64 0,.int .i64 0,.int .i64 0,.int .u16 0]) (zc5 (Below.refl w.heap.size w) (.cells #[.int .i64 0,.int .i64 0,.int .i64 0,.bool false,.bool false,.bool false,.bool false,.int .u32 0,.int .u32 0,.slice none 0 0,.int .i64 0,.int .i64 0,.int .i64 0,.int .u16 0] 95)));have zp:=h.lt;obtain⟨x,hx⟩:∃x,x=b.headD 0:=⟨_,rfl⟩
 have hcx:(b.map bv)[0]? =some (.int .u8 (x.toNat:Nat)):=by
  rw[hx];rcases b with _ | ⟨y,b⟩
  · simp at h8
  · rfl
 obtain⟨bb,oo,rfl,hcell⟩:=hs.at_ hcx;rw[Nat.add_zero] at hcell;have h8n:n=8:=by omega
 subst h8n;have HX:=zak hx;have HN:=zak hn;have HC:=zak hc;have HS:=zak hs;have HB:=zak hB';have HCL:=zak hcell;clear h hB' hs hcx hcell hx hn hc h8;go_enter Tryz.func123,Tryz.ntmps123
 go_upto_region 1 with fail
 refine zed (P:=fun W=>Blk W w.heap.size 95 #[.int .i64 0,.int .i64 0,.int .i64 0,.bool false,.bool false,.bool false,.bool false,.int .u32 0,.int .u32 0,.slice none 0 0,.int .i64 0,.int .i64 0,.int .i64 0,.int .u16 0]∧ Below w.heap.size w W) HQ0.out (fun W hW=>?_);clear HQ0;obtain⟨hq,hbw⟩:=hW;have HQ:=zak hq;have HBW:=zak hbw;have lq:=hq.lt;have hszW:=hbw.size;have cW:W.cell? ⟨p,1,none⟩=some (.pointer (some ⟨pb,0,none⟩)):=(hbw.cell (p:=⟨p,1,none⟩) zp.1).trans c1;have hxW:W.cell? ⟨bb,oo,none⟩=some (.int .u8 (x.toNat:Nat)):=(hbw.cell (zal HCL.out)).trans HCL.out;have HRows:=zak (zl4 pb pd X.bk A' n' c' W (HB.out.below hbw zp.2.2))
 have HSW:=zak (HS.out.below hbw);clear hq hbw c1;go_wp2_with fail
 refine HRows.out.mono ?_;rintro e w1 ⟨rfl,hw⟩;subst hw;by_cases hst:X.bk.st=1
 · have hq:(X.bk.st == 1)=true:=by simp[hst]
   have HST:=zak hst;rw[hq];clear hq hst;by_cases hx8:x=128
   · have dx:((x.toNat:Int) != 128)=false:=by rw[hx8];rfl
     have HX8:=zak hx8;clear hx8;have hks:sdKs X b=reqK:=by unfold sdKs;rw[if_neg (fun h=>h.2 (HX.out.symm.trans HX8.out))]
     have hrc:sdRc X b=if errI reqK b=0 then 0 else 84148225:=by unfold sdRc;rw[hks,if_neg (c:=(X.bk.st=1∧b.headD 0≠128)) (fun h=>h.2 (HX.out.symm.trans HX8.out))]
     have HKS:=zak hks;clear hks;go_wp2_with fail
     refine (zgo (some ⟨bb,oo,none⟩) 8 c b _ HN.out HC.out HSW.out).mono ?_;rintro e w3 ⟨A3,n3,c3,rfl,hO,hb⟩;obtain⟨M,hM⟩:∃M,M=resM reqK b:=⟨_,rfl⟩;obtain⟨er,her⟩:∃er,er=errI reqK b:=⟨_,rfl⟩;rw[←her] at hrc;rw[←hM] at hO;rw[←hM,←her];have qr:=HQ.out.below hb lq;have hbw:=zc4 hb HBW.out;have hsz:=hbw.size;have HM:=zak hM;have lq3:=qr.lt;have HQR:=zak qr;clear hM her hb;obtain⟨kind,ix,sub,tg,la,cr,sz,size,code,data,sq,bl,em,sum⟩:=M;have HO:=zak hO;simp only[msV] at qr ⊢;obtain⟨dn,dp,dq,dr,dt,du,dy,dA,dB,dC,cO,cP,cQ,cR⟩:=zde qr;have ex:=qr.frozen;clear hO;by_cases he:er=0
     · have d2:(er != 0)=false:=by simp[he]
       have hrc2:sdRc X b=0:=by rw[hrc,if_pos he]
       have HRC:=zak hrc2;clear hrc2 hrc he;go_wp2_with fail
       have q4:=(zn2 (vs:=[.int .i64 kind,.int .i64 ix,.int .i64 sub,.bool tg,.bool la,.bool cr,.bool sz,.int .u32 (size:Nat),.int .u32 (code:Nat),.slice A3 n3 c3,.int .i64 sq,.int .i64 bl,.int .i64 em,.int .u16 (sum:Nat)]) HQR.out rfl rfl).alloc (.cells #[.int .i64 kind,.int .i64 ix,.int .i64 sub,.bool tg,.bool la,.bool cr,.bool sz,.int .u32 (size:Nat),.int .u32 (code:Nat),.slice A3 n3 c3,.int .i64 sq,.int .i64 bl,.int .i64 em,.int .u16 (sum:Nat)] 95);simp only[World.setCells,Nat.reduceAdd] at q4;refine zn4 (M:=(⟨kind,ix,sub,tg,la,cr,sz,size,code,data,sq,bl,em,sum⟩:Ms)) (A:=A3) (n:=n3) (c:=c3) (v:= .int .u32 ((0:Nat):Int)) rfl rfl rfl q4 rfl (HE.out _ 0 (⟨kind,ix,sub,tg,la,cr,sz,size,code,data,sq,bl,em,sum⟩:Ms) A3 n3 c3 _ HKS.out HM.out HRC.out ?_ ?_)
       · exact ((zfm HO.out lq _ _ _ _ _ _ _ _ _ _ _ _ _ _).alloc _).mono hszW
       · all_goals exact kBl
     · have d2:(er != 0)=true:=by simp[he]
       have hrc2:sdRc X b=84148225:=by rw[hrc,if_neg he]
       have HRC:=zak hrc2;clear hrc2 hrc he;go_wp2_with fail
       have q4:=(zn2 (vs:=[.int .i64 kind,.int .i64 ix,.int .i64 sub,.bool tg,.bool la,.bool cr,.bool sz,.int .u32 (size:Nat),.int .u32 (code:Nat),.slice A3 n3 c3,.int .i64 sq,.int .i64 bl,.int .i64 em,.int .u16 (sum:Nat)]) HQR.out rfl rfl).alloc (.cells #[.int .i64 kind,.int .i64 ix,.int .i64 sub,.bool tg,.bool la,.bool cr,.bool sz,.int .u32 (size:Nat),.int .u32 (code:Nat),.slice A3 n3 c3,.int .i64 sq,.int .i64 bl,.int .i64 em,.int .u16 (sum:Nat)] 95);simp only[World.setCells,Nat.reduceAdd] at q4;refine zn4 (M:=(⟨kind,ix,sub,tg,la,cr,sz,size,code,data,sq,bl,em,sum⟩:Ms)) (A:=A3) (n:=n3) (c:=c3) (v:= .int .u32 ((84148225:Nat):Int)) rfl rfl rfl q4 rfl (HE.out _ 84148225 (⟨kind,ix,sub,tg,la,cr,sz,size,code,data,sq,bl,em,sum⟩:Ms) A3 n3 c3 _ HKS.out HM.out HRC.out ?_ ?_)
       · exact ((zfm HO.out lq _ _ _ _ _ _ _ _ _ _ _ _ _ _).alloc _).mono hszW
       · all_goals exact kBl
   · have dx:((x.toNat:Int) != 128)=true:=by have:x.toNat≠128:=fun h=>hx8 (UInt8.toNat_inj.1 h);simp;omega
     have HX8:=zak hx8;clear hx8;have hks:sdKs X b=segK:=by unfold sdKs;rw[if_pos ⟨HST.out,fun h=>HX8.out (HX.out.trans h)⟩]
     have hrc:sdRc X b=if errI segK b=0 then 0 else 84148227:=by unfold sdRc;rw[hks,if_pos (c:=(X.bk.st=1∧b.headD 0≠128)) ⟨HST.out,fun h=>HX8.out (HX.out.trans h)⟩]
     have HKS:=zak hks;clear hks;go_wp2_with fail
     refine (zgq (some ⟨bb,oo,none⟩) 8 c b _ HN.out HC.out HSW.out).mono ?_;rintro e w3 ⟨A3,n3,c3,rfl,hO,hb⟩;obtain⟨M,hM⟩:∃M,M=resM segK b:=⟨_,rfl⟩;obtain⟨er,her⟩:∃er,er=errI segK b:=⟨_,rfl⟩;rw[←her] at hrc;rw[←hM] at hO;rw[←hM,←her];have qr:=HQ.out.below hb lq;have hbw:=zc4 hb HBW.out;have hsz:=hbw.size;have HM:=zak hM;have lq3:=qr.lt;have HQR:=zak qr;clear hM her hb;obtain⟨kind,ix,sub,tg,la,cr,sz,size,code,data,sq,bl,em,sum⟩:=M;have HO:=zak hO;simp only[msV] at qr ⊢;obtain⟨dn,dp,dq,dr,dt,du,dy,dA,dB,dC,cO,cP,cQ,cR⟩:=zde qr;have ex:=qr.frozen;clear hO;by_cases he:er=0
     · have d2:(er != 0)=false:=by simp[he]
       have hrc2:sdRc X b=0:=by rw[hrc,if_pos he]
       have HRC:=zak hrc2;clear hrc2 hrc he;go_wp2_with fail
       have q4:=(zn2 (vs:=[.int .i64 kind,.int .i64 ix,.int .i64 sub,.bool tg,.bool la,.bool cr,.bool sz,.int .u32 (size:Nat),.int .u32 (code:Nat),.slice A3 n3 c3,.int .i64 sq,.int .i64 bl,.int .i64 em,.int .u16 (sum:Nat)]) HQR.out rfl rfl).alloc (.cells #[.int .i64 kind,.int .i64 ix,.int .i64 sub,.bool tg,.bool la,.bool cr,.bool sz,.int .u32 (size:Nat),.int .u32 (code:Nat),.slice A3 n3 c3,.int .i64 sq,.int .i64 bl,.int .i64 em,.int .u16 (sum:Nat)] 95);simp only[World.setCells,Nat.reduceAdd] at q4;refine zn4 (M:=(⟨kind,ix,sub,tg,la,cr,sz,size,code,data,sq,bl,em,sum⟩:Ms)) (A:=A3) (n:=n3) (c:=c3) (v:= .int .u32 ((0:Nat):Int)) rfl rfl rfl q4 rfl (HE.out _ 0 (⟨kind,ix,sub,tg,la,cr,sz,size,code,data,sq,bl,em,sum⟩:Ms) A3 n3 c3 _ HKS.out HM.out HRC.out ?_ ?_)
       · exact ((zfm HO.out lq _ _ _ _ _ _ _ _ _ _ _ _ _ _).alloc _).mono hszW
       · all_goals exact kBl
     · have d2:(er != 0)=true:=by simp[he]
       have hrc2:sdRc X b=84148227:=by rw[hrc,if_neg he]
       have HRC:=zak hrc2;clear hrc2 hrc he;go_wp2_with fail
       have q4:=(zn2 (vs:=[.int .i64 kind,.int .i64 ix,.int .i64 sub,.bool tg,.bool la,.bool cr,.bool sz,.int .u32 (size:Nat),.int .u32 (code:Nat),.slice A3 n3 c3,.int .i64 sq,.int .i64 bl,.int .i64 em,.int .u16 (sum:Nat)]) HQR.out rfl rfl).alloc (.cells #[.int .i64 kind,.int .i64 ix,.int .i64 sub,.bool tg,.bool la,.bool cr,.bool sz,.int .u32 (size:Nat),.int .u32 (code:Nat),.slice A3 n3 c3,.int .i64 sq,.int .i64 bl,.int .i64 em,.int .u16 (sum:Nat)] 95);simp only[World.setCells,Nat.reduceAdd] at q4;refine zn4 (M:=(⟨kind,ix,sub,tg,la,cr,sz,size,code,data,sq,bl,em,sum⟩:Ms)) (A:=A3) (n:=n3) (c:=c3) (v:= .int .u32 ((84148227:Nat):Int)) rfl rfl rfl q4 rfl (HE.out _ 84148227 (⟨kind,ix,sub,tg,la,cr,sz,size,code,data,sq,bl,em,sum⟩:Ms) A3 n3 c3 _ HKS.out HM.out HRC.out ?_ ?_)
       · exact ((zfm HO.out lq _ _ _ _ _ _ _ _ _ _ _ _ _ _).alloc _).mono hszW
       · all_goals exact kBl
 · have hq:(X.bk.st == 1)=false:=by simp[hst]
   have HST:=zak hst;rw[hq];clear hq hst;have hks:sdKs X b=reqK:=by unfold sdKs;rw[if_neg (fun h=>HST.out h.1)]
   have hrc:sdRc X b=if errI reqK b=0 then 0 else 84148225:=by unfold sdRc;rw[hks,if_neg (c:=(X.bk.st=1∧b.headD 0≠128)) (fun h=>HST.out h.1)]
   have HKS:=zak hks;clear hks;go_wp2_with fail
   refine (zgo (some ⟨bb,oo,none⟩) 8 c b _ HN.out HC.out HSW.out).mono ?_;rintro e w3 ⟨A3,n3,c3,rfl,hO,hb⟩;obtain⟨M,hM⟩:∃M,M=resM reqK b:=⟨_,rfl⟩;obtain⟨er,her⟩:∃er,er=errI reqK b:=⟨_,rfl⟩;rw[←her] at hrc;rw[←hM] at hO;rw[←hM,←her];have qr:=HQ.out.below hb lq;have hbw:=zc4 hb HBW.out;have hsz:=hbw.size;have HM:=zak hM;have lq3:=qr.lt;have HQR:=zak qr;clear hM her hb;obtain⟨kind,ix,sub,tg,la,cr,sz,size,code,data,sq,bl,em,sum⟩:=M;have HO:=zak hO;simp only[msV] at qr ⊢;obtain⟨dn,dp,dq,dr,dt,du,dy,dA,dB,dC,cO,cP,cQ,cR⟩:=zde qr;have ex:=qr.frozen;clear hO;by_cases he:er=0
   · have d2:(er != 0)=false:=by simp[he]
     have hrc2:sdRc X b=0:=by rw[hrc,if_pos he]
     have HRC:=zak hrc2;clear hrc2 hrc he;go_wp2_with fail
     have q4:=(zn2 (vs:=[.int .i64 kind,.int .i64 ix,.int .i64 sub,.bool tg,.bool la,.bool cr,.bool sz,.int .u32 (size:Nat),.int .u32 (code:Nat),.slice A3 n3 c3,.int .i64 sq,.int .i64 bl,.int .i64 em,.int .u16 (sum:Nat)]) HQR.out rfl rfl).alloc (.cells #[.int .i64 kind,.int .i64 ix,.int .i64 sub,.bool tg,.bool la,.bool cr,.bool sz,.int .u32 (size:Nat),.int .u32 (code:Nat),.slice A3 n3 c3,.int .i64 sq,.int .i64 bl,.int .i64 em,.int .u16 (sum:Nat)] 95);simp only[World.setCells,Nat.reduceAdd] at q4;refine zn4 (M:=(⟨kind,ix,sub,tg,la,cr,sz,size,code,data,sq,bl,em,sum⟩:Ms)) (A:=A3) (n:=n3) (c:=c3) (v:= .int .u32 ((0:Nat):Int)) rfl rfl rfl q4 rfl (HE.out _ 0 (⟨kind,ix,sub,tg,la,cr,sz,size,code,data,sq,bl,em,sum⟩:Ms) A3 n3 c3 _ HKS.out HM.out HRC.out ?_ ?_)
     · exact ((zfm HO.out lq _ _ _ _ _ _ _ _ _ _ _ _ _ _).alloc _).mono hszW
     · all_goals exact kBl
   · have d2:(er != 0)=true:=by simp[he]
     have hrc2:sdRc X b=84148225:=by rw[hrc,if_neg he]
     have HRC:=zak hrc2;clear hrc2 hrc he;go_wp2_with fail
     have q4:=(zn2 (vs:=[.int .i64 kind,.int .i64 ix,.int .i64 sub,.bool tg,.bool la,.bool cr,.bool sz,.int .u32 (size:Nat),.int .u32 (code:Nat),.slice A3 n3 c3,.int .i64 sq,.int .i64 bl,.int .i64 em,.int .u16 (sum:Nat)]) HQR.out rfl rfl).alloc (.cells #[.int .i64 kind,.int .i64 ix,.int .i64 sub,.bool tg,.bool la,.bool cr,.bool sz,.int .u32 (size:Nat),.int .u32 (code:Nat),.slice A3 n3 c3,.int .i64 sq,.int .i64 bl,.int .i64 em,.int .u16 (sum:Nat)] 95);simp only[World.setCells,Nat.reduceAdd] at q4;refine zn4 (M:=(⟨kind,ix,sub,tg,la,cr,sz,size,code,data,sq,bl,em,sum⟩:Ms)) (A:=A3) (n:=n3) (c:=c3) (v:= .int .u32 ((84148225:Nat):Int)) rfl rfl rfl q4 rfl (HE.out _ 84148225 (⟨kind,ix,sub,tg,la,cr,sz,size,code,data,sq,bl,em,sum⟩:Ms) A3 n3 c3 _ HKS.out HM.out HRC.out ?_ ?_)
     · exact ((zfm HO.out lq _ _ _ _ _ _ _ _ _ _ _ _ _ _).alloc _).mono hszW
     · all_goals exact kBl
end
end
section
def sdSeg (k:Int):Bool:=decide (2≤k) && decide (k≤5)
def sdBeg (k:Int):Bool:=decide (k=2∨k=4∨k=6∨k=8)
def sdRst (X:SdoS):SdoS:={ X with sg:=segIdle X.sg,bk:=blkIdle X.bk }
def sdDS (L:List Ent) (V:List (List UInt8)) (X:SdoS) (M:Ms):SdoS:=
 if M.kind=1 then sdRst X else
 if sdSeg M.kind=true then
  (if sdBeg M.kind=true then { X with sg:=recvS L V X.sg M,bk:=blkIdle X.bk } else if X.bk.st≠0 then { X with bk:=blkIdle X.bk } else { X with sg:=recvS L V X.sg M })
 else (if sdBeg M.kind=true then { X with sg:=segIdle X.sg,bk:=brS L V X.bk M } else if X.sg.st≠0 then { X with sg:=segIdle X.sg } else { X with bk:=brS L V X.bk M })
def sdDO (L:List Ent) (V:List (List UInt8)) (X:SdoS) (M:Ms):SegO:=
 if M.kind=1 then outZ else
 if sdSeg M.kind=true then
  (if sdBeg M.kind=true then recvO L V X.sg M else if X.bk.st≠0 then outM (abM X.bk.ix X.bk.sub 84148225) else recvO L V X.sg M)
 else (if sdBeg M.kind=true then brO L V X.bk M else if X.sg.st≠0 then outM (abM X.sg.ix X.sg.sub 84148225) else brO L V X.bk M)
def sdReq (X:SdoS) (f:Frm):Bool:=decide (f.id=X.nin∧f.re=false∧f.data.length=8)
def sdRS (L:List Ent) (V:List (List UInt8)) (X:SdoS) (f:Frm):SdoS:=
 if sdReq X f=true then (if sdRc X f.data≠0 then sdAbS { X with left:=50 } else sdDS L V { X with left:=50 } (resM (sdKs X f.data) f.data)) else X
def sdRO (L:List Ent) (V:List (List UInt8)) (X:SdoS) (f:Frm):SegO:=
 if sdReq X f=true then (if sdRc X f.data≠0 then outL (sdAbL X (sdRc X f.data)) else sdDO L V X (resM (sdKs X f.data) f.data)) else outZ
def sdBusy (X:SdoS):Bool:=(X.sg.st != 0) || (X.bk.st != 0)
def sdAS (X:SdoS):SdoS:={ X with sg:=answerS X.sg,bk:=bAnswerS X.bk }
def sdAL (X:SdoS) (code:Nat):List Ms:=answerL X.sg code ++ bAnswerL X.bk code
def zn6 (S:SegS):Prop:=(S.st=1→S.mo≤256∧S.b.length≤256)∧ (S.st=2→S.b.length≤256)
theorem zn6.bytes {S:SegS}(h:zn6 S):S.st=1∨S.st=2→S.b.length≤256:=fun h1=>h1.elim (fun h1=>(h.1 h1).2) h.2
theorem zn7 {S:SegS}(h:S.st=0):zn6 S:=⟨fun h1=>by omega,fun h1=>by omega⟩
theorem zn8 {L:List Ent}{V:List (List UInt8)}{S:SegS}{M:Ms}(hv:∀v ∈ V,v.length≤256)(h:zn6 S):zn6 (recvS L V S M):=by
 unfold recvS;split
 · exact zn7 rfl
 split
 · unfold downS;split
   · exact zn7 rfl
   split
   · exact⟨fun h1=>absurd h1 (show ¬(3:Int)=1 by decide),fun h1=>absurd h1 (show ¬(3:Int)=2 by decide)⟩
   · exact⟨fun _=>⟨(znl _).2,Nat.zero_le _⟩,fun h1=>absurd h1 (show ¬(1:Int)=2 by decide)⟩
 split
 · unfold upS;split
   · exact zn7 rfl
   split
   · exact zn7 rfl
   · exact⟨fun h1=>absurd h1 (show ¬(2:Int)=1 by decide),fun _=>znm hv _ _⟩
 split
 · rename_i hk;obtain⟨_,h1⟩:=hk;have h2:=h.1 h1;unfold partS;split
   · exact zn7 rfl
   rename_i htg;split
   · exact zn7 rfl
   rename_i hp;have hp:pcode S M=0:=by omega
   split
   · exact⟨fun h1=>absurd h1 (show ¬(3:Int)=1 by decide),fun h1=>absurd h1 (show ¬(3:Int)=2 by decide)⟩
   · refine⟨fun _=>⟨h2.1,?_⟩,fun h3=>by have:S.st=2:=h3;omega⟩;show (S.b ++ M.data).length≤256;unfold pcode at hp;rw[if_neg htg] at hp;split at hp
     · omega
     · rename_i h4
       have: ¬S.mo < ((S.b ++ M.data).length:Int):=fun h5=>h4 (.inl h5)
       omega
 split
 · rename_i hk;obtain⟨_,h1⟩:=hk;have h2:=h.2 h1;unfold nextS;split
   · exact zn7 rfl
   split
   · exact zn7 rfl
   · refine⟨fun h3=>by have:S.st=1:=h3;omega,fun _=>?_⟩;show (S.b.drop 7).length≤256
     simp
     omega
 · exact zn7 rfl
structure SdWf (X:SdoS):Prop where
 sg:zn6 X.sg
 bk:BWf X.bk
 one:X.sg.st=0∨X.bk.st=0
 lf:sdBusy X=true→1≤X.left∧X.left≤50
theorem zn9 {X:SdoS}(h1:X.sg.st=0)(h2:X.bk.st=0):sdBusy X=false:=by simp[sdBusy,h1,h2]
theorem zoa {X:SdoS}(h:X.sg.st=0∨X.bk.st=0):(sdAbS X).sg.st=0∧(sdAbS X).bk.st=0:=by
 unfold sdAbS;split
 · rename_i h1;exact⟨rfl,by rcases h with h | h;exact absurd h h1;exact h⟩
 · rename_i h1;have h1:X.sg.st=0:=by omega
   split
   · exact⟨h1,rfl⟩
   · rename_i h2;exact⟨h1,by omega⟩
theorem zob {X:SdoS}(h1:zn6 X.sg)(h2:BWf X.bk)(h:X.sg.st=0∨X.bk.st=0):SdWf (sdAbS X):=by
 obtain⟨h3,h4⟩:=zoa h;refine⟨zn7 h3,?_,.inl h3,fun hb=>by rw[zn9 h3 h4] at hb;cases hb⟩;unfold sdAbS;split
 · exact h2
 split
 · exact zno h2
 · exact h2
theorem zoc {L:List Ent}{V:List (List UInt8)}{X:SdoS}{M:Ms}(hv:∀v ∈ V,v.length≤256)(h1:zn6 X.sg)(h2:BWf X.bk)(h:X.sg.st=0∨X.bk.st=0)(hL:1≤X.left∧X.left≤50)(hM:BMOk M):SdWf (sdDS L V X M):=by
 unfold sdDS;split
 · exact⟨zn7 rfl,zno h2,.inl rfl,fun _=>hL⟩
 split
 · split
   · exact⟨zn8 hv h1,zno h2,.inr rfl,fun _=>hL⟩
   split
   · exact⟨h1,zno h2,.inr rfl,fun _=>hL⟩
   · rename_i h3;exact⟨zn8 hv h1,h2,.inr (show X.bk.st=0 by omega),fun _=>hL⟩
 · split
   · exact⟨zn7 rfl,znq hv h2 hM,.inl rfl,fun _=>hL⟩
   split
   · exact⟨zn7 rfl,h2,.inl rfl,fun _=>hL⟩
   · rename_i h3;exact⟨h1,znq hv h2 hM,.inl (show X.sg.st=0 by omega),fun _=>hL⟩
theorem zod (b:List UInt8)(i:Nat):byt b i < 256:=by
 have:=(b.getD i 0).toNat_lt
 unfold byt;omega
theorem zoe (f:Int)(M:Ms)(h:BMOk M):BMOk (onlyM f M):=by
 obtain⟨h1,h2,h3,h4⟩:=h;refine⟨?_,?_,?_,?_⟩<;> (unfold onlyM;simp only[];split<;>omega)
theorem zof (k:Int)(b:List UInt8):BMOk (preM k b):=by
 have h4:leN ((b.drop 4).take 4)≤ 4294967295:=by
  have h:=zan ((b.drop 4).take 4);have hp:256 ^ ((b.drop 4).take 4).length≤256 ^ 4:=Nat.pow_le_pow_right (by omega) (List.length_take_le _ _)
  have:(256:Nat) ^ 4=4294967296:=by decide
  omega
 have b0:=zod b 0;have b1:=zod b 1;have b2:=zod b 2;have b4:=zod b 4;refine⟨h4,⟨by show (0:Int)≤ ((byt b 0 / 4 % 8:Nat):Int);omega,by show ((byt b 0 / 4 % 8:Nat):Int)≤ 1000;omega⟩,?_,?_⟩
 · unfold preM;simp only[];split<;>omega
 · unfold preM;simp only[];split<;>omega
theorem zog (ks:List Int)(b:List UInt8):BMOk (resM ks b):=by
 have hz:BMOk msZ:=⟨by decide,by decide,by decide,by decide⟩;unfold resM;split
 · have h:∀ks,∀x,ofM ks b=some x→BMOk x:=by
    intro ks
    induction ks with
    | nil=>intro x hx;cases hx
    | cons k ks ih=>
      intro x hx;unfold ofM at hx;split at hx
      · injection hx with hx
        subst hx;exact zoe _ _ (zof k b)
      · exact ih x hx
   cases ho:ofM ks b with
   | none=>exact hz
   | some x=>exact h ks x ho
 · exact hz
theorem zoh {L:List Ent}{V:List (List UInt8)}{X:SdoS}{f:Frm}(hv:∀v ∈ V,v.length≤256)(h:SdWf X):SdWf (sdRS L V X f):=by
 unfold sdRS;split
 · split
   · exact zob (X:={ X with left:=50 }) h.sg h.bk h.one
   · exact zoc (X:={ X with left:=50 }) hv h.sg h.bk h.one ⟨show (1:Int)≤ 50 by decide,show (50:Int)≤ 50 by decide⟩ (zog _ _)
 · exact h
theorem zoi {X:SdoS}(h:SdWf X):SdWf (sdAS X):=by
 have h1:X.sg.st=0→(answerS X.sg).st=0:=fun h0=>by unfold answerS;rw[if_neg (by omega)];exact h0
 have h2:X.bk.st=0→(bAnswerS X.bk).st=0:=fun h0=>by unfold bAnswerS;rw[if_neg (by omega)];exact h0
 refine⟨?_,?_,?_,fun hb=>h.lf ?_⟩
 · show zn6 (answerS X.sg);unfold answerS;split
   · exact zn7 rfl
   · exact h.sg
 · show BWf (bAnswerS X.bk);unfold bAnswerS;split
   · exact zno h.bk
   · exact h.bk
 · rcases h.one with h0 | h0
   · exact .inl (h1 h0)
   · exact .inr (h2 h0)
 · cases hq:sdBusy X
   · exfalso
     have h3:X.sg.st=0:=by simp[sdBusy] at hq;exact hq.1
     have h4:X.bk.st=0:=by simp[sdBusy] at hq;exact hq.2
     rw[zn9 (X:=sdAS X) (h1 h3) (h2 h4)] at hb;cases hb
   · rfl
theorem zoj (i o:Int):SdWf ⟨segZ,blkZ,i,o,0⟩:=⟨zn7 rfl,bwf_z,.inl rfl,fun hb=>by rw[zn9 (X:=⟨segZ,blkZ,i,o,0⟩) rfl rfl] at hb;cases hb⟩
end
section
theorem zok (l:List UInt8):sum16L l≤65535:=by
 have:=zcn l
 unfold U16 at this;omega
def AllOk (l:List Ms):Prop:= ∀K ∈ l,MsOk K
theorem zol:AllOk []:=by intro K hK;cases hK
theorem zom {M:Ms}(h:MsOk M):AllOk [M]:=by
 intro K hK;simp at hK;subst hK;exact h
theorem zon {a b:List Ms}(h1:AllOk a)(h2:AllOk b):AllOk (a ++ b):=by
 intro K hK;rcases List.mem_append.1 hK with h | h
 · exact h1 K h
 · exact h2 K h
theorem zoo (ix sub:Int)(c:Nat)(h:c≤4294967295):MsOk (abM ix sub c):=⟨Nat.zero_le _,h,Nat.zero_le _⟩
theorem zop {M:Ms}(h1:M.size≤4294967295)(h2:M.code=0)(h3:M.sum≤65535):MsOk M:=⟨h1,by rw[h2];exact Nat.zero_le _,h3⟩
theorem zoq (L:List Ent)(ix sub:Int):smayC L ix sub≤4294967295:=by
 unfold smayC codeL writeE
 (repeat' split)<;> omega
theorem zor (L:List Ent)(ix sub:Int):getC L ix sub≤4294967295:=by
 unfold getC codeL readE
 (repeat' split)<;> omega
theorem zos (E:Ent)(n:Int):fitsC E n≤4294967295:=by
 unfold fitsC
 (repeat' split)<;> omega
theorem zot (L:List Ent)(M:Ms):dcode L M≤4294967295:=by
 unfold dcode;split
 · exact zos _ _
 · exact zoq _ _ _
theorem zou (L:List Ent)(M:Ms):bdcode L M≤4294967295:=by
 unfold bdcode;split
 · exact zos _ _
 · exact zoq _ _ _
theorem zov (L:List Ent)(M:Ms):bucode L M≤4294967295:=by
 unfold bucode;split
 · omega
 · exact zor _ _ _
theorem zow (S:SegS)(c:Nat)(h:c≤4294967295):AllOk (abortL S c):=by
 unfold abortL;split
 · exact zol
 · exact zom (zoo _ _ _ h)
theorem zox (S:BlkS)(c:Nat)(h:c≤4294967295):AllOk (bAbortL S c):=by
 unfold bAbortL;split
 · exact zol
 · exact zom (zoo _ _ _ h)
theorem zoy {L:List Ent}{V:List (List UInt8)}{S:SegS}{M:Ms}(hv:∀v ∈ V,v.length≤256):AllOk (recvO L V S M).ms:=by
 unfold recvO;split
 · exact zol
 split
 · unfold downO;split
   · exact zom (zoo _ _ _ (by have:=zot L M;omega))
   split
   · exact zol
   · exact zom (zop (Nat.zero_le _) rfl (Nat.zero_le _))
 split
 · unfold upO;split
   · exact zom (zoo _ _ _ (by have:=zor L M.ix M.sub;omega))
   split
   · exact zom (zop (Nat.zero_le _) rfl (Nat.zero_le _))
   · exact zom (zop (by have:=znm (L:=L) hv M.ix M.sub;show (getB L V M.ix M.sub).length≤4294967295;omega) rfl (Nat.zero_le _))
 split
 · unfold partO;split
   · refine zow _ _ ?_;unfold pcode
     (repeat' split)<;> decide
   split
   · exact zol
   · exact zom (zop (Nat.zero_le _) rfl (Nat.zero_le _))
 split
 · unfold nextO;split
   · exact zow _ _ (by decide)
   · exact zom (zop (Nat.zero_le _) rfl (Nat.zero_le _))
 split<;>exact zom (zoo _ _ _ (by decide))
theorem zoz (S:BlkS):AllOk (bgiveL S):=by
 intro K hK;unfold bgiveL at hK;obtain⟨i,_,rfl⟩:=List.mem_map.1 hK;exact zop (Nat.zero_le _) rfl (Nat.zero_le _)
theorem zo0 {L:List Ent}{V:List (List UInt8)}{S:BlkS}{M:Ms}(hv:∀v ∈ V,v.length≤256):AllOk (brO L V S M).ms:=by
 unfold brO;split
 · exact zol
 split
 · unfold bdownO;split
   · exact zom (zoo _ _ _ (by have:=zou L M;omega))
   · exact zom (zop (Nat.zero_le _) rfl (Nat.zero_le _))
 split
 · unfold bupO;split
   · exact zom (zoo _ _ _ (by have:=zov L M;omega))
   · exact zom (zop (by have:=znm (L:=L) hv M.ix M.sub;show (getB L V M.ix M.sub).length≤4294967295;omega) rfl (Nat.zero_le _))
 split
 · exact zom (zoo _ _ _ (by decide))
 split
 · unfold bpartO;split
   · refine zox _ _ ?_;unfold bpcode
     (repeat' split)<;> decide
   split
   · exact zol
   · exact zom (zop (Nat.zero_le _) rfl (Nat.zero_le _))
 split
 · unfold bendO;split
   · refine zox _ _ ?_;unfold becode
     (repeat' split)<;> decide
   · exact zol
 split
 · exact zoz S
 split
 · unfold backO;split
   · refine zox _ _ ?_;unfold bacode
     (repeat' split)<;> decide
   split
   · exact zoz _
   · exact zom (zop (Nat.zero_le _) rfl (by show (if S.sm=true then sum16L S.b else 0)≤ 65535;split;exact zok _;exact Nat.zero_le _))
 split
 · exact zol
 · exact zom (zoo _ _ _ (by decide))
theorem zo4 {L:List Ent}{V:List (List UInt8)}{X:SdoS}{M:Ms}(hv:∀v ∈ V,v.length≤256):AllOk (sdDO L V X M).ms:=by
 unfold sdDO;split
 · exact zol
 split
 · split
   · exact zoy hv
   split
   · exact zom (zoo _ _ _ (by decide))
   · exact zoy hv
 · split
   · exact zo0 hv
   split
   · exact zom (zoo _ _ _ (by decide))
   · exact zo0 hv
theorem zo5 (X:SdoS)(c:Nat)(h:c≤4294967295):AllOk (sdAbL X c):=by
 unfold sdAbL;split
 · exact zom (zoo _ _ _ h)
 split
 · exact zom (zoo _ _ _ h)
 · exact zom (zoo _ _ _ h)
end
section
open Go.RowKit Go.Maps
def NewSR (pd:Nat) (node:Int) (w:World) (e:Ending) (w':World):Prop:=
 ∃p ps pb,e= .returned (.tuple #[.pointer (some ⟨p,0,none⟩),.int .i64 0])∧ w.heap.size≤p∧w.heap.size≤ps∧w.heap.size≤pb∧DV w' (fun _=>False) p ps pb pd ⟨segZ,blkZ,1536+node,1408+node,0⟩∧ Below w.heap.size w w'
theorem zo6 (pd:Nat)(node:Int)(h:1≤node∧node≤127)(w:World):Calls Tryz.prog 21 #[.pointer (some ⟨pd,0,none⟩),.int .i64 node] w (NewSR pd node w):=by
 have H1:=zak (fun W=>znc 8 (.inr rfl) node h W);have H2:=zak (fun W=>znc 7 (.inl rfl) node h W);rw[if_neg (show ¬(8:Int)=7 by decide)] at H1;rw[if_pos rfl] at H2;clear h;go_enter Tryz.func21,Tryz.ntmps21
 go_wp2_with fail
 refine (H1.out _).mono ?_;rintro e w1 ⟨rfl,hb1⟩;have HB1:=zak hb1;clear hb1;go_wp2_with fail
 refine (H2.out _).mono ?_;rintro e w2 ⟨rfl,hb2⟩;have HB2:=zak (HB1.out.trans (hb2.mono HB1.out.size));clear hb2;go_wp2_with fail
 refine (zj7 pd _).mono ?_;rintro e w3 ⟨rfl,hS,hb3,hz3⟩;have HB3:=zak (HB2.out.trans (hb3.mono HB2.out.size));have HS:=zak hS;have HZ3:=zak hz3;clear hS hb3 hz3;go_wp2_with fail
 refine (zl2 pd _).mono ?_;rintro e w4 ⟨rfl,hB,hb4,hz4⟩;have HB4:=zak (HB3.out.trans (hb4.mono HB3.out.size));have HS4:=zak (HS.out.below hb4 (by have:=HZ3.out;omega));have HB:=zak hB;have HZ4:=zak hz4;clear hB hb4 hz4;go_wp2_with fail
 go_ret2
 have hz2:=HB2.out.size;have hz3:=HZ3.out;have hz4:=HZ4.out;have k:=Blk.new w4 138 (sdoL ⟨segZ,blkZ,1536+node,1408+node,0⟩ w2.heap.size w3.heap.size).toArray;refine⟨w4.heap.size,w2.heap.size,w3.heap.size,rfl,by omega,by omega,by omega,⟨k,SV_.idle_ (HS4.out.alloc _) rfl,BV_.idle_ (HB.out.alloc _) rfl,⟨by omega,by omega,by omega⟩,⟨id,id,id⟩⟩,zc5 HB4.out _⟩
section
variable {w:World} {G:Nat→Prop} {p ps pb pd:Nat} {X:SdoS}
def CallF (w:World) (id:Int) (V:World→Prop) (F:Nat→Prop) (l:List Ms) (e:Ending) (w':World):Prop:=
 ∃N As ns cs ds,e= .returned (.slice As ns cs)∧ w.heap.size≤N∧zg3 w' (fun g=>N≤g) As ns cs (frmL id l) ds∧V w'∧zd0 F w w'
theorem zo7 {w:World}{F:Nat→Prop}{A:Option Addr}{n c:Nat}{L:List Ms}{ds:List (Option Addr×Nat)}(h:zgy w F A n c L ds):SlM w A L:=by
 intro j M hM;obtain⟨d,hd,hO,_⟩:=h.1.elem hM;obtain⟨g,hA,hlt,hc⟩:=h.1.cells zgt hM hd (by omega);refine⟨g,0,d.1,d.2,hA,?_,hO.own.sl⟩;rw[Nat.zero_add];exact⟨hc 0 _ rfl,hc 1 _ rfl,hc 2 _ rfl,hc 3 _ rfl,hc 4 _ rfl,hc 5 _ rfl,hc 6 _ rfl,hc 7 _ rfl,hc 8 _ rfl,hc 9 _ rfl,hc 10 _ rfl,hc 11 _ rfl,hc 12 _ rfl,hc 13 _ rfl⟩
end
end
section
open Go.RowKit Go.Maps
section
variable {w w':World} {G:Nat→Prop} {p ps pb pd:Nat} {X:SdoS}
theorem DV.low (h:DV w G p ps pb pd X)(hb:Below w.heap.size w w'):DV w' G p ps pb pd X:=
 ⟨h.blk.below hb h.lt.1,h.seg.kept (fun q _ hl=>hb.block q hl) hb.size (fun _ _ g=>g),h.bkv.keep (fun q _ hl=>hb.block q hl) hb.size (fun _ _ g=>g),h.ne,h.ng⟩
theorem zo8 (X:SdoS)(c:Nat):(sdAbL X c).length=1:=by
 unfold sdAbL;split
 · rfl
 split<;>rfl
theorem zo9 (X:SdoS):(sdAbS X).nin=X.nin∧(sdAbS X).nout=X.nout∧(sdAbS X).left=X.left:=by
 unfold sdAbS;split
 · exact⟨rfl,rfl,rfl⟩
 split<;>exact⟨rfl,rfl,rfl⟩
theorem DV.out_ (h:DV w G p ps pb pd X):w.cell? ⟨p,3,none⟩=some (.int .i64 X.nout):=h.blk.cell 3 rfl
theorem zpa {w5:World}{Y:Nat→Prop}{N0:Nat}{As:Option Addr}{ns cs:Nat}{l:List Ms}{ds:List (Option Addr×Nat)}(h:DV w5 G p ps pb pd X)(hM:MsG w5 N0 Y As ns cs l ds)(hk:AllOk l)(hl:l.length≤1000) :
 Calls Tryz.prog 124 #[.pointer (some ⟨p,0,none⟩),.slice As ns cs] w5 (SendR X.nout l w5):=
 zne p X.nout l As ns cs w5 h.out_ hM.1.1.hn (zo7 hM.1) hk (by rw[hM.1.1.hn];exact hl)
end
end
end Go.Proofs.YtkkpjbjmhaecjaaGreat
