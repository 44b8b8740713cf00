/- None -/
import Derived.Test.YtkkpjbjmhaecjaaGreatT45
import Derived.Test.YtkkpjbjmhaecjaaGreatT46
namespace Go.Proofs.YtkkpjbjmhaecjaaGreat
set_option linter.all false
set_option maxRecDepth 100000
set_option maxHeartbeats 8000000
section
open Go.RowKit Go.Maps
section
variable {w0:World} {G:Nat→Prop} {p m:Nat} {ks:List KB} {rs:List RB}
theorem zxm (S:CliS)(R:CR)(most:Int)(W:World)(h:CM w0 G p m S.wk (cliL S m R) ks rs W)(hw:0≤S.wk∧S.wk≤21)(hE:EOk S R)(hb:⟨R.A,R.n,R.c,S.b⟩ ∈ rs)(hn2:R.n2=S.data.length)(hd:S.data= [])(hl:S.b.length≤100000)(ha:0≤S.at_)(hm:0≤most∧most≤1000) :
 Calls Tryz.prog 192 #[.pointer (some ⟨p,0,none⟩),.int .i64 most] W (zw3 w0 G p m (cRowsS S most) (cRowsL S most)):=by
 by_cases h1:(btotal S.b:Int)≤ S.at_
 · exact zxk S R most W h hw hE hb hn2 hd hl h1
 · exact zxl S R most W h hw hE hb hn2 hd hl S.at_.toNat (by omega) (by omega) hm
theorem zxn (S:CliS)(R:CR)(M:Ms)(A:Option Addr)(n c:Nat)(W:World)(h:CM w0 G p m S.wk (cliL S m R) ks rs W)(hw:1≤S.wk∧S.wk≤21)(hE:EOk S R)(hb:⟨R.A,R.n,R.c,S.b⟩ ∈ rs)(hn2:R.n2=S.data.length)(hd:S.data= [])(hl:S.b.length≤100000)(hM:⟨A,n,c,M.data⟩ ∈ rs)(ha:0≤S.at_)(hk:M.kind=13) :
 Calls Tryz.prog 143 #[.pointer (some ⟨p,0,none⟩),.agg (msV M A n c)] W (zw3 w0 G p m (cStepS S M) (cStepL S M)):=by
 obtain⟨k,ix,sub,tg,la,cr,sz,size,code,data,sq,bl,em,sum⟩:=M;obtain rfl:k=13:=hk;dsimp only at *
 have H1:Hid (CM w0 G p m S.wk (cliL S m R) ks rs (W.alloc (.cells (msV (⟨13,ix,sub,tg,la,cr,sz,size,code,data,sq,bl,em,sum⟩:Ms) A n c) 95))):=zak (h.alloc _);have q:=zdg W 95 (msV (⟨13,ix,sub,tg,la,cr,sz,size,code,data,sq,bl,em,sum⟩:Ms) A n c);have HW:=zak hw;have HE:=zak hE;have HBB:=zak hb;have HN2:=zak hn2;have HD:=zak hd;obtain⟨P,hP⟩:∃P,P=zw3 w0 G p m (cStepS S (⟨13,ix,sub,tg,la,cr,sz,size,code,data,sq,bl,em,sum⟩:Ms)) (cStepL S (⟨13,ix,sub,tg,la,cr,sz,size,code,data,sq,bl,em,sum⟩:Ms)):=⟨_,rfl⟩;have HP:Hid (P=zw3 w0 G p m (cSegS { S with tg:=!S.tg }) (cSegL { S with tg:=!S.tg })):=zak (by rw[hP];rfl)
 rw[←hP];have z1:=H1.out.lt;have HS:=zak (fun W h=>zwz (w0:=w0) (G:=G) (p:=p) (m:=m) (ks:=ks) (rs:=rs) { S with tg:=!S.tg } R W h ⟨by have:=hw.1;simp only;omega,hw.2⟩ hE hb hn2 hd hl ha);have c20:(W.alloc (.cells (msV (⟨13,ix,sub,tg,la,cr,sz,size,code,data,sq,bl,em,sum⟩:Ms) A n c) 95)).cell? ⟨p,20,none⟩=some (.bool S.tg):=H1.out.blk.cell 20 rfl;have f20:=H1.out.blk.frozen 20;unfold msV at c20 f20 z1;clear hw hE hb hn2 hd hl ha hM;clear hP h;unfold msV at H1 q ⊢;have q0:_=some (Value.int .i64 13):=q.cell 0 rfl;clear q;go_enter Tryz.func143,Tryz.ntmps143
 go_wp2_with fail
 refine (HS.out _ (H1.out.set 20 _)).mono ?_;rw[←HP.out];rintro e W2 hR;obtain⟨As,ns,cs,rfl⟩:∃As ns cs,e= .returned (.slice As ns cs):=by
  rw[HP.out] at hR;exact hR.shape
 have HR:=zak hR;clear hR;go_wp2_with fail
 exact HR.out
theorem zxo (S:CliS)(R:CR)(M:Ms)(A:Option Addr)(n c:Nat)(W:World)(h:CM w0 G p m S.wk (cliL S m R) ks rs W)(hw:1≤S.wk∧S.wk≤21)(hE:EOk S R)(hb:⟨R.A,R.n,R.c,S.b⟩ ∈ rs)(hn2:R.n2=S.data.length)(hd:S.data= [])(hl:S.b.length≤100000)(hM:⟨A,n,c,M.data⟩ ∈ rs)(hMl:M.data.length≤7)(hk:M.kind=15) :
 Calls Tryz.prog 143 #[.pointer (some ⟨p,0,none⟩),.agg (msV M A n c)] W (zw3 w0 G p m (cStepS S M) (cStepL S M)):=by
 obtain⟨k,ix,sub,tg,la,cr,sz,size,code,data,sq,bl,em,sum⟩:=M;obtain rfl:k=15:=hk;dsimp only at *
 have H1:Hid (CM w0 G p m S.wk (cliL S m R) ks rs (W.alloc (.cells (msV (⟨15,ix,sub,tg,la,cr,sz,size,code,data,sq,bl,em,sum⟩:Ms) A n c) 95))):=zak (h.alloc _);have q:=zdg W 95 (msV (⟨15,ix,sub,tg,la,cr,sz,size,code,data,sq,bl,em,sum⟩:Ms) A n c);have HW:=zak hw;have HE:=zak hE;have HBB:=zak hb;have HN2:=zak hn2;have HD:=zak hd;obtain⟨P,hP⟩:∃P,P=zw3 w0 G p m (cStepS S (⟨15,ix,sub,tg,la,cr,sz,size,code,data,sq,bl,em,sum⟩:Ms)) (cStepL S (⟨15,ix,sub,tg,la,cr,sz,size,code,data,sq,bl,em,sum⟩:Ms)):=⟨_,rfl⟩;have HP:Hid (P=zw3 w0 G p m (cPcS S (⟨15,ix,sub,tg,la,cr,sz,size,code,data,sq,bl,em,sum⟩:Ms)) (cPcL S (⟨15,ix,sub,tg,la,cr,sz,size,code,data,sq,bl,em,sum⟩:Ms))):=zak (by rw[hP];rfl)
 rw[←hP];have z1:=H1.out.lt;have HS:=zak (fun W h=>zxb (w0:=w0) (G:=G) (p:=p) (m:=m) (ks:=ks) S R (⟨15,ix,sub,tg,la,cr,sz,size,code,data,sq,bl,em,sum⟩:Ms) A n c W rs h ⟨by have:=hw.1;omega,hw.2⟩ hE hb hn2 hd hl hM hMl);clear hw hE hb hn2 hd hl hM hMl;clear hP h;unfold msV at H1 q ⊢;obtain⟨cI,cJ,cK,cS,de,dg,dN,dO,dP,dQ,cT,dH,dI,dJ⟩:=zde q;have ei:=q.frozen;clear q;go_enter Tryz.func143,Tryz.ntmps143
 go_wp2_with fail
 refine (HS.out _ H1.out).mono ?_;rw[←HP.out];rintro e W2 hR;obtain⟨As,ns,cs,rfl⟩:∃As ns cs,e= .returned (.slice As ns cs):=by
  rw[HP.out] at hR;exact hR.shape
 have HR:=zak hR;clear hR;go_wp2_with fail
 exact HR.out
theorem zxp (S:CliS)(R:CR)(M:Ms)(A:Option Addr)(n c:Nat)(W:World)(h:CM w0 G p m S.wk (cliL S m R) ks rs W)(hw:1≤S.wk∧S.wk≤21)(hE:EOk S R)(hb:⟨R.A,R.n,R.c,S.b⟩ ∈ rs)(hn2:R.n2=S.data.length)(hd:S.data= [])(hl:S.b.length≤100000)(hM:⟨A,n,c,M.data⟩ ∈ rs)(hem:0≤M.em∧M.em≤7)(hsum:M.sum≤65535)(hk:M.kind=20) :
 Calls Tryz.prog 143 #[.pointer (some ⟨p,0,none⟩),.agg (msV M A n c)] W (zw3 w0 G p m (cStepS S M) (cStepL S M)):=by
 obtain⟨k,ix,sub,tg,la,cr,sz,size,code,data,sq,bl,em,sum⟩:=M;obtain rfl:k=20:=hk;dsimp only at *
 have H1:Hid (CM w0 G p m S.wk (cliL S m R) ks rs (W.alloc (.cells (msV (⟨20,ix,sub,tg,la,cr,sz,size,code,data,sq,bl,em,sum⟩:Ms) A n c) 95))):=zak (h.alloc _);have q:=zdg W 95 (msV (⟨20,ix,sub,tg,la,cr,sz,size,code,data,sq,bl,em,sum⟩:Ms) A n c);have HW:=zak hw;have HE:=zak hE;have HBB:=zak hb;have HN2:=zak hn2;have HD:=zak hd;obtain⟨P,hP⟩:∃P,P=zw3 w0 G p m (cStepS S (⟨20,ix,sub,tg,la,cr,sz,size,code,data,sq,bl,em,sum⟩:Ms)) (cStepL S (⟨20,ix,sub,tg,la,cr,sz,size,code,data,sq,bl,em,sum⟩:Ms)):=⟨_,rfl⟩;have HP:Hid (P=zw3 w0 G p m (cLsS S (⟨20,ix,sub,tg,la,cr,sz,size,code,data,sq,bl,em,sum⟩:Ms)) (cLsL S (⟨20,ix,sub,tg,la,cr,sz,size,code,data,sq,bl,em,sum⟩:Ms))):=zak (by rw[hP];rfl)
 rw[←hP];have z1:=H1.out.lt;have HS:=zak (fun W h=>zxf (w0:=w0) (G:=G) (p:=p) (m:=m) (ks:=ks) S R (⟨20,ix,sub,tg,la,cr,sz,size,code,data,sq,bl,em,sum⟩:Ms) A n c W rs h ⟨by have:=hw.1;omega,hw.2⟩ hE hb hn2 hd hl hem hsum);clear hw hE hb hn2 hd hl hM hem hsum;clear hP h;unfold msV at H1 q ⊢;obtain⟨cI,cJ,cK,cS,de,dg,dN,dO,dP,dQ,cT,dH,dI,dJ⟩:=zde q;have ei:=q.frozen;clear q;go_enter Tryz.func143,Tryz.ntmps143
 go_wp2_with fail
 refine (HS.out _ H1.out).mono ?_;rw[←HP.out];rintro e W2 hR;obtain⟨As,ns,cs,rfl⟩:∃As ns cs,e= .returned (.slice As ns cs):=by
  rw[HP.out] at hR;exact hR.shape
 have HR:=zak hR;clear hR;go_wp2_with fail
 exact HR.out
theorem zxq (S:CliS)(R:CR)(M:Ms)(A:Option Addr)(n c:Nat)(W:World)(h:CM w0 G p m S.wk (cliL S m R) ks rs W)(hw:1≤S.wk∧S.wk≤21)(hE:EOk S R)(hb:⟨R.A,R.n,R.c,S.b⟩ ∈ rs)(hn2:R.n2=S.data.length)(hd:S.data= [])(hl:S.b.length≤100000)(hM:⟨A,n,c,M.data⟩ ∈ rs)(hMl:M.data.length≤7)(hro:0≤S.ro∧S.ro≤1000)(hk:M.kind=21) :
 Calls Tryz.prog 143 #[.pointer (some ⟨p,0,none⟩),.agg (msV M A n c)] W (zw3 w0 G p m (cStepS S M) (cStepL S M)):=by
 obtain⟨k,ix,sub,tg,la,cr,sz,size,code,data,sq,bl,em,sum⟩:=M;obtain rfl:k=21:=hk;dsimp only at *
 have H1:Hid (CM w0 G p m S.wk (cliL S m R) ks rs (W.alloc (.cells (msV (⟨21,ix,sub,tg,la,cr,sz,size,code,data,sq,bl,em,sum⟩:Ms) A n c) 95))):=zak (h.alloc _);have q:=zdg W 95 (msV (⟨21,ix,sub,tg,la,cr,sz,size,code,data,sq,bl,em,sum⟩:Ms) A n c);have HW:=zak hw;have HE:=zak hE;have HBB:=zak hb;have HN2:=zak hn2;have HD:=zak hd;obtain⟨P,hP⟩:∃P,P=zw3 w0 G p m (cStepS S (⟨21,ix,sub,tg,la,cr,sz,size,code,data,sq,bl,em,sum⟩:Ms)) (cStepL S (⟨21,ix,sub,tg,la,cr,sz,size,code,data,sq,bl,em,sum⟩:Ms)):=⟨_,rfl⟩;have HP:Hid (P=zw3 w0 G p m (cTkS S (⟨21,ix,sub,tg,la,cr,sz,size,code,data,sq,bl,em,sum⟩:Ms)) (cTkL S (⟨21,ix,sub,tg,la,cr,sz,size,code,data,sq,bl,em,sum⟩:Ms))):=zak (by rw[hP];rfl)
 rw[←hP];have z1:=H1.out.lt;have HS:=zak (fun W h=>zxd (w0:=w0) (G:=G) (p:=p) (m:=m) (ks:=ks) S R (⟨21,ix,sub,tg,la,cr,sz,size,code,data,sq,bl,em,sum⟩:Ms) A n c W rs h hw hE hb hn2 hd hl hM hMl hro);clear hw hE hb hn2 hd hl hM hMl hro;clear hP h;unfold msV at H1 q ⊢;obtain⟨cI,cJ,cK,cS,de,dg,dN,dO,dP,dQ,cT,dH,dI,dJ⟩:=zde q;have ei:=q.frozen;clear q;go_enter Tryz.func143,Tryz.ntmps143
 go_wp2_with fail
 refine (HS.out _ H1.out).mono ?_;rw[←HP.out];rintro e W2 hR;obtain⟨As,ns,cs,rfl⟩:∃As ns cs,e= .returned (.slice As ns cs):=by
  rw[HP.out] at hR;exact hR.shape
 have HR:=zak hR;clear hR;go_wp2_with fail
 exact HR.out
theorem zxr (S:CliS)(R:CR)(M:Ms)(A:Option Addr)(n c:Nat)(W:World)(h:CM w0 G p m S.wk (cliL S m R) ks rs W)(hw:1≤S.wk∧S.wk≤21)(hE:EOk S R)(hb:⟨R.A,R.n,R.c,S.b⟩ ∈ rs)(hn2:R.n2=S.data.length)(hd:S.data= [])(hl:S.b.length≤100000)(hM:⟨A,n,c,M.data⟩ ∈ rs)(ha:0≤S.at_)(hbl:0≤M.bl∧M.bl≤1000)(hk:M.kind=16) :
 Calls Tryz.prog 143 #[.pointer (some ⟨p,0,none⟩),.agg (msV M A n c)] W (zw3 w0 G p m (cStepS S M) (cStepL S M)):=by
 obtain⟨k,ix,sub,tg,la,cr,sz,size,code,data,sq,bl,em,sum⟩:=M;obtain rfl:k=16:=hk;dsimp only at *
 have H1:Hid (CM w0 G p m S.wk (cliL S m R) ks rs (W.alloc (.cells (msV (⟨16,ix,sub,tg,la,cr,sz,size,code,data,sq,bl,em,sum⟩:Ms) A n c) 95))):=zak (h.alloc _);have q:=zdg W 95 (msV (⟨16,ix,sub,tg,la,cr,sz,size,code,data,sq,bl,em,sum⟩:Ms) A n c);have HW:=zak hw;have HE:=zak hE;have HBB:=zak hb;have HN2:=zak hn2;have HD:=zak hd;obtain⟨P,hP⟩:∃P,P=zw3 w0 G p m (cStepS S (⟨16,ix,sub,tg,la,cr,sz,size,code,data,sq,bl,em,sum⟩:Ms)) (cStepL S (⟨16,ix,sub,tg,la,cr,sz,size,code,data,sq,bl,em,sum⟩:Ms)):=⟨_,rfl⟩;have HP:Hid (P=zw3 w0 G p m (cRowsS S bl) (cRowsL S bl)):=zak (by rw[hP];rfl);rw[←hP];have z1:=H1.out.lt
 have HS:=zak (fun W h=>zxm (w0:=w0) (G:=G) (p:=p) (m:=m) (ks:=ks) (rs:=rs) S R bl W h ⟨by have:=hw.1;first | omega | (simp only;omega),hw.2⟩ hE hb hn2 hd hl ha hbl);clear hw hE hb hn2 hd hl hM ha hbl;clear hP h;unfold msV at H1 q ⊢;obtain⟨cI,cJ,cK,cS,de,dg,dN,dO,dP,dQ,cT,dH,dI,dJ⟩:=zde q;have ei:=q.frozen;clear q;go_enter Tryz.func143,Tryz.ntmps143
 go_wp2_with fail
 refine (HS.out _ H1.out).mono ?_;rw[←HP.out];rintro e W2 hR;obtain⟨As,ns,cs,rfl⟩:∃As ns cs,e= .returned (.slice As ns cs):=by
  rw[HP.out] at hR;exact hR.shape
 have HR:=zak hR;clear hR;go_wp2_with fail
 exact HR.out
theorem zxs (S:CliS)(R:CR)(M:Ms)(A:Option Addr)(n c:Nat)(W:World)(h:CM w0 G p m S.wk (cliL S m R) ks rs W)(hw:1≤S.wk∧S.wk≤21)(hE:EOk S R)(hb:⟨R.A,R.n,R.c,S.b⟩ ∈ rs)(hn2:R.n2=S.data.length)(hd:S.data= [])(hl:S.b.length≤100000)(hM:⟨A,n,c,M.data⟩ ∈ rs)(ha:0≤S.at_)(hbl:0≤M.bl∧M.bl≤1000)(hsq:0≤M.sq∧M.sq≤1000)(ha2:S.at_≤1000000)(hk:M.kind=17) :
 Calls Tryz.prog 143 #[.pointer (some ⟨p,0,none⟩),.agg (msV M A n c)] W (zw3 w0 G p m (cStepS S M) (cStepL S M)):=by
 obtain⟨k,ix,sub,tg,la,cr,sz,size,code,data,sq,bl,em,sum⟩:=M;obtain rfl:k=17:=hk;dsimp only at *
 have H1:Hid (CM w0 G p m S.wk (cliL S m R) ks rs (W.alloc (.cells (msV (⟨17,ix,sub,tg,la,cr,sz,size,code,data,sq,bl,em,sum⟩:Ms) A n c) 95))):=zak (h.alloc _);have q:=zdg W 95 (msV (⟨17,ix,sub,tg,la,cr,sz,size,code,data,sq,bl,em,sum⟩:Ms) A n c);have HW:=zak hw;have HE:=zak hE;have HBB:=zak hb;have HN2:=zak hn2;have HD:=zak hd;obtain⟨P,hP⟩:∃P,P=zw3 w0 G p m (cStepS S (⟨17,ix,sub,tg,la,cr,sz,size,code,data,sq,bl,em,sum⟩:Ms)) (cStepL S (⟨17,ix,sub,tg,la,cr,sz,size,code,data,sq,bl,em,sum⟩:Ms)):=⟨_,rfl⟩;have HP:Hid (P=zw3 w0 G p m (cRowsS { S with at_:=S.at_+sq } bl) (cRowsL { S with at_:=S.at_+sq } bl)):=zak (by rw[hP];rfl)
 rw[←hP];have z1:=H1.out.lt;have HS:=zak (fun W h=>zxm (w0:=w0) (G:=G) (p:=p) (m:=m) (ks:=ks) (rs:=rs) { S with at_:=S.at_+sq } R bl W h ⟨by have:=hw.1;first | omega | (simp only;omega),hw.2⟩ hE hb hn2 hd hl (by have:=hsq.1;simp only;omega) hbl);have c18:(W.alloc (.cells (msV (⟨17,ix,sub,tg,la,cr,sz,size,code,data,sq,bl,em,sum⟩:Ms) A n c) 95)).cell? ⟨p,18,none⟩=some (.int .i64 S.at_):=H1.out.blk.cell 18 rfl;have f18:=H1.out.blk.frozen 18;unfold msV at c18 f18 z1;have hwr:IntKind.i64.wrap (S.at_+sq)=S.at_+sq:=by unfold IntKind.wrap;simp[IntKind.signed,IntKind.bits];omega
 clear hw hE hb hn2 hd hl hM ha hbl hsq ha2;clear hP h;unfold msV at H1 q ⊢;obtain⟨cI,cJ,cK,cS,de,dg,dN,dO,dP,dQ,cT,dH,dI,dJ⟩:=zde q;have ei:=q.frozen;clear q;go_enter Tryz.func143,Tryz.ntmps143
 go_upto_region 17 with fail
 go_region
 go_wp2_with fail
 refine (HS.out _ (H1.out.drew.set 18 _)).mono ?_;rw[←HP.out];rintro e W2 hR;obtain⟨As,ns,cs,rfl⟩:∃As ns cs,e= .returned (.slice As ns cs):=by
  rw[HP.out] at hR;exact hR.shape
 have HR:=zak hR;clear hR;go_wp2_with fail
 exact HR.out
theorem zxt (S:CliS)(R:CR)(M:Ms)(A:Option Addr)(n c:Nat)(W:World)(h:CM w0 G p m S.wk (cliL S m R) ks rs W)(hw:1≤S.wk∧S.wk≤21)(hE:EOk S R)(hb:⟨R.A,R.n,R.c,S.b⟩ ∈ rs)(hn2:R.n2=S.data.length)(hd:S.data= [])(hl:S.b.length≤100000)(hM:⟨A,n,c,M.data⟩ ∈ rs)(hk:M.kind=18) :
 Calls Tryz.prog 143 #[.pointer (some ⟨p,0,none⟩),.agg (msV M A n c)] W (zw3 w0 G p m (cStepS S M) (cStepL S M)):=by
 obtain⟨k,ix,sub,tg,la,cr,sz,size,code,data,sq,bl,em,sum⟩:=M;obtain rfl:k=18:=hk;dsimp only at *
 have H1:Hid (CM w0 G p m S.wk (cliL S m R) ks rs (W.alloc (.cells (msV (⟨18,ix,sub,tg,la,cr,sz,size,code,data,sq,bl,em,sum⟩:Ms) A n c) 95))):=zak (h.alloc _);have q:=zdg W 95 (msV (⟨18,ix,sub,tg,la,cr,sz,size,code,data,sq,bl,em,sum⟩:Ms) A n c);have HW:=zak hw;have HE:=zak hE;have HBB:=zak hb;have HN2:=zak hn2;have HD:=zak hd;obtain⟨P,hP⟩:∃P,P=zw3 w0 G p m (cStepS S (⟨18,ix,sub,tg,la,cr,sz,size,code,data,sq,bl,em,sum⟩:Ms)) (cStepL S (⟨18,ix,sub,tg,la,cr,sz,size,code,data,sq,bl,em,sum⟩:Ms)):=⟨_,rfl⟩;have HP:Hid (P=zw3 w0 G p m (cEnd S 0 []) []):=zak (by rw[hP];rfl);rw[←hP];have z1:=H1.out.lt;clear hw hE hb hn2 hd hl hM
 clear hP h;unfold msV at H1 q ⊢;have q0:_=some (Value.int .i64 18):=q.cell 0 rfl;clear q;go_enter Tryz.func143,Tryz.ntmps143
 go_wp2_with fail
 refine (zer 0 none 0 0 [] _ H1.out rfl rfl ⟨by have:=HW.out.1;omega,HW.out.2⟩ rfl (by omega) (fun _ _=>Sl.nil _ _)).mono ?_;rintro e W2 ⟨rfl,A',c',h2⟩;have HF:=zak (zwn (S:=cEnd S 0 []) (R:={ R with A2:=A',n2:=0,c2:=c' }) h2 HE.out (fun h=>absurd rfl h) rfl (fun h=>absurd rfl h));clear h2;go_wp2_with fail
 rw[HP.out];exact HF.out
theorem zxu (S:CliS)(R:CR)(M:Ms)(A:Option Addr)(n c:Nat)(W:World)(h:CM w0 G p m S.wk (cliL S m R) ks rs W)(hw:1≤S.wk∧S.wk≤21)(hE:EOk S R)(hb:⟨R.A,R.n,R.c,S.b⟩ ∈ rs)(hn2:R.n2=S.data.length)(hd:S.data= [])(hl:S.b.length≤100000)(hM:⟨A,n,c,M.data⟩ ∈ rs)(hsz:M.size≤4294967295)(hMl:M.data.length≤7)(hz:M.data= [])(hk:M.kind=14) :
 Calls Tryz.prog 143 #[.pointer (some ⟨p,0,none⟩),.agg (msV M A n c)] W (zw3 w0 G p m (cStepS S M) (cStepL S M)):=by
 obtain⟨k,ix,sub,tg,la,cr,sz,size,code,data,sq,bl,em,sum⟩:=M;obtain rfl:k=14:=hk;dsimp only at *
 have hnm:n=data.length:=(h.rows _ hM).1.hn;have hks:True:=trivial;have H1:Hid (CM w0 G p m S.wk (cliL S m R) ks rs (W.alloc (.cells (msV (⟨14,ix,sub,tg,la,cr,sz,size,code,data,sq,bl,em,sum⟩:Ms) A n c) 95))):=zak (h.alloc _);have q:=zdg W 95 (msV (⟨14,ix,sub,tg,la,cr,sz,size,code,data,sq,bl,em,sum⟩:Ms) A n c);have HW:=zak hw;have HE:=zak hE;have HBB:=zak hb;have HN2:=zak hn2;have HD:=zak hd;obtain⟨P,hP⟩:∃P,P=zw3 w0 G p m (cStepS S (⟨14,ix,sub,tg,la,cr,sz,size,code,data,sq,bl,em,sum⟩:Ms)) (cStepL S (⟨14,ix,sub,tg,la,cr,sz,size,code,data,sq,bl,em,sum⟩:Ms)):=⟨_,rfl⟩;have HP:Hid (P=zw3 w0 G p m (cMoreS (cExp S (⟨14,ix,sub,tg,la,cr,sz,size,code,data,sq,bl,em,sum⟩:Ms))) (cMoreL (cExp S (⟨14,ix,sub,tg,la,cr,sz,size,code,data,sq,bl,em,sum⟩:Ms)))):=zak (by
  rw[hP];show zw3 w0 G p m (if data≠ [] then _ else _) (if data≠ [] then _ else _)=_;rw[if_neg (fun h=>h hz),if_neg (fun h=>h hz)]
  rfl)
 rw[←hP];have z1:=H1.out.lt;have HK2:=zak hks;have HX:Hid (CM w0 G p m S.wk (cliL (cExp S (⟨14,ix,sub,tg,la,cr,sz,size,code,data,sq,bl,em,sum⟩:Ms)) m { R with E:=(⟨14,ix,sub,tg,la,cr,sz,size,code,data,sq,bl,em,sum⟩:Ms),Ae:=A,ne:=n,ce:=c }) (⟨W.heap.size,95,[.int .i64 14,.int .i64 ix,.int .i64 sub,.bool tg,.bool la,.bool cr,.bool sz,.int .u32 (size:Nat),.int .u32 (code:Nat),.slice A n c,.int .i64 sq,.int .i64 bl,.int .i64 em,.int .u16 (sum:Nat)]⟩ :: ks) rs ((W.alloc (.cells (msV (⟨14,ix,sub,tg,la,cr,sz,size,code,data,sq,bl,em,sum⟩:Ms) A n c) 95)).setCells p 21 [.int .i64 14,.int .i64 ix,.int .i64 sub,.bool tg,.bool la,.bool cr,.bool sz,.int .u32 (size:Nat),.int .u32 (code:Nat),.slice A n c,.int .i64 sq,.int .i64 bl,.int .i64 em,.int .u16 (sum:Nat)])):=zak ((h.new 95 [.int .i64 14,.int .i64 ix,.int .i64 sub,.bool tg,.bool la,.bool cr,.bool sz,.int .u32 (size:Nat),.int .u32 (code:Nat),.slice A n c,.int .i64 sq,.int .i64 bl,.int .i64 em,.int .u16 (sum:Nat)] (by decide)).sets [.int .i64 14,.int .i64 ix,.int .i64 sub,.bool tg,.bool la,.bool cr,.bool sz,.int .u32 (size:Nat),.int .u32 (code:Nat),.slice A n c,.int .i64 sq,.int .i64 bl,.int .i64 em,.int .u16 (sum:Nat)] 21 (by simp[cliL]))
 have HEX:Hid (EOk (cExp S (⟨14,ix,sub,tg,la,cr,sz,size,code,data,sq,bl,em,sum⟩:Ms)) { R with E:=(⟨14,ix,sub,tg,la,cr,sz,size,code,data,sq,bl,em,sum⟩:Ms),Ae:=A,ne:=n,ce:=c }):=zak ⟨rfl,rfl,rfl,hsz⟩;have fz:=fun i=>H1.out.blk.frozen i
 obtain⟨a21,a22,a23,a24,a25,a26,a27,a28,a29,a30,a31,a32,a33,a34⟩:=zej H1.out.blk;unfold msV at a21 a22 a23 a24 a25 a26 a27 a28 a29 a30 a31 a32 a33 a34;unfold msV at HX fz z1;simp only[World.setCells,Nat.reduceAdd] at HX;have hn0:n=0:=by rw[hnm,hz];rfl
 subst hn0;have HS:=zak (fun W ks h=>zws (w0:=w0) (G:=G) (p:=p) (m:=m) (ks:=ks) (rs:=rs) (cExp S (⟨14,ix,sub,tg,la,cr,sz,size,code,data,sq,bl,em,sum⟩:Ms)) { R with E:=(⟨14,ix,sub,tg,la,cr,sz,size,code,data,sq,bl,em,sum⟩:Ms),Ae:=A,ne:=0,ce:=c } W h ⟨by have:=hw.1;simp only[cExp];omega,hw.2⟩ HEX.out hb hn2 hd);clear hw hE hb hn2 hd hl hM hsz hMl hz hnm hks;clear hP h;unfold msV at H1 q ⊢;obtain⟨cI,cJ,cK,cS,de,dg,dN,dO,dP,dQ,cT,dH,dI,dJ⟩:=zde q;have ei:=q.frozen;clear q;go_enter Tryz.func143,Tryz.ntmps143
 go_wp2_with fail
 refine (HS.out _ _ HX.out).mono ?_;rw[←HP.out];rintro e W2 hR;obtain⟨As,ns,cs,rfl⟩:∃As ns cs,e= .returned (.slice As ns cs):=by
  rw[HP.out] at hR;exact hR.shape
 have HR:=zak hR;clear hR;go_wp2_with fail
 exact HR.out
theorem zxv (S:CliS)(R:CR)(M:Ms)(A:Option Addr)(n c:Nat)(W:World)(h:CM w0 G p m S.wk (cliL S m R) ks rs W)(hw:1≤S.wk∧S.wk≤21)(hE:EOk S R)(hb:⟨R.A,R.n,R.c,S.b⟩ ∈ rs)(hn2:R.n2=S.data.length)(hd:S.data= [])(hl:S.b.length≤100000)(hM:⟨A,n,c,M.data⟩ ∈ rs)(hsz:M.size≤4294967295)(hMl:M.data.length≤7)(hz:M.data≠ [])(hk:M.kind=14) :
 Calls Tryz.prog 143 #[.pointer (some ⟨p,0,none⟩),.agg (msV M A n c)] W (zw3 w0 G p m (cStepS S M) (cStepL S M)):=by
 obtain⟨k,ix,sub,tg,la,cr,sz,size,code,data,sq,bl,em,sum⟩:=M;obtain rfl:k=14:=hk;dsimp only at *
 have hnm:n=data.length:=(h.rows _ hM).1.hn;have hks:True:=trivial;have H1:Hid (CM w0 G p m S.wk (cliL S m R) ks rs (W.alloc (.cells (msV (⟨14,ix,sub,tg,la,cr,sz,size,code,data,sq,bl,em,sum⟩:Ms) A n c) 95))):=zak (h.alloc _);have q:=zdg W 95 (msV (⟨14,ix,sub,tg,la,cr,sz,size,code,data,sq,bl,em,sum⟩:Ms) A n c);have HW:=zak hw;have HE:=zak hE;have HBB:=zak hb;have HN2:=zak hn2;have HD:=zak hd;obtain⟨P,hP⟩:∃P,P=zw3 w0 G p m (cStepS S (⟨14,ix,sub,tg,la,cr,sz,size,code,data,sq,bl,em,sum⟩:Ms)) (cStepL S (⟨14,ix,sub,tg,la,cr,sz,size,code,data,sq,bl,em,sum⟩:Ms)):=⟨_,rfl⟩;have HP:Hid (P=zw3 w0 G p m (cEnd (cExp S (⟨14,ix,sub,tg,la,cr,sz,size,code,data,sq,bl,em,sum⟩:Ms)) 0 data) []):=zak (by
  rw[hP];show zw3 w0 G p m (if data≠ [] then _ else _) (if data≠ [] then _ else _)=_;rw[if_pos hz,if_pos hz]
  )
 rw[←hP];have z1:=H1.out.lt;have HK2:=zak hks;have HX:Hid (CM w0 G p m S.wk (cliL (cExp S (⟨14,ix,sub,tg,la,cr,sz,size,code,data,sq,bl,em,sum⟩:Ms)) m { R with E:=(⟨14,ix,sub,tg,la,cr,sz,size,code,data,sq,bl,em,sum⟩:Ms),Ae:=A,ne:=n,ce:=c }) (⟨W.heap.size,95,[.int .i64 14,.int .i64 ix,.int .i64 sub,.bool tg,.bool la,.bool cr,.bool sz,.int .u32 (size:Nat),.int .u32 (code:Nat),.slice A n c,.int .i64 sq,.int .i64 bl,.int .i64 em,.int .u16 (sum:Nat)]⟩ :: ks) rs ((W.alloc (.cells (msV (⟨14,ix,sub,tg,la,cr,sz,size,code,data,sq,bl,em,sum⟩:Ms) A n c) 95)).setCells p 21 [.int .i64 14,.int .i64 ix,.int .i64 sub,.bool tg,.bool la,.bool cr,.bool sz,.int .u32 (size:Nat),.int .u32 (code:Nat),.slice A n c,.int .i64 sq,.int .i64 bl,.int .i64 em,.int .u16 (sum:Nat)])):=zak ((h.new 95 [.int .i64 14,.int .i64 ix,.int .i64 sub,.bool tg,.bool la,.bool cr,.bool sz,.int .u32 (size:Nat),.int .u32 (code:Nat),.slice A n c,.int .i64 sq,.int .i64 bl,.int .i64 em,.int .u16 (sum:Nat)] (by decide)).sets [.int .i64 14,.int .i64 ix,.int .i64 sub,.bool tg,.bool la,.bool cr,.bool sz,.int .u32 (size:Nat),.int .u32 (code:Nat),.slice A n c,.int .i64 sq,.int .i64 bl,.int .i64 em,.int .u16 (sum:Nat)] 21 (by simp[cliL]))
 have HEX:Hid (EOk (cExp S (⟨14,ix,sub,tg,la,cr,sz,size,code,data,sq,bl,em,sum⟩:Ms)) { R with E:=(⟨14,ix,sub,tg,la,cr,sz,size,code,data,sq,bl,em,sum⟩:Ms),Ae:=A,ne:=n,ce:=c }):=zak ⟨rfl,rfl,rfl,hsz⟩;have fz:=fun i=>H1.out.blk.frozen i
 obtain⟨a21,a22,a23,a24,a25,a26,a27,a28,a29,a30,a31,a32,a33,a34⟩:=zej H1.out.blk;unfold msV at a21 a22 a23 a24 a25 a26 a27 a28 a29 a30 a31 a32 a33 a34;unfold msV at HX fz z1;simp only[World.setCells,Nat.reduceAdd] at HX;have hn1:0 < n:=by rw[hnm];exact List.length_pos_iff.2 hz
 have HNM:=zak hnm;have HMM:=zak hM;have hn7:n≤7:=by omega
 clear hw hE hb hn2 hd hl hM hsz hMl hz hnm hks;clear hP h;unfold msV at H1 q ⊢;obtain⟨cI,cJ,cK,cS,de,dg,dN,dO,dP,dQ,cT,dH,dI,dJ⟩:=zde q;have ei:=q.frozen;clear q;go_enter Tryz.func143,Tryz.ntmps143
 go_wp2_with fail
 refine (zer 0 A n c data _ HX.out rfl rfl ⟨by have:=HW.out.1;omega,HW.out.2⟩ HNM.out (by omega) (fun W' h'=>(h'.rows _ HMM.out).1.sl)).mono ?_;rintro e W2 ⟨rfl,A',c',h2⟩;have HF:=zak (zwn (S:=cEnd (cExp S (⟨14,ix,sub,tg,la,cr,sz,size,code,data,sq,bl,em,sum⟩:Ms)) 0 data) (R:={ R with E:=(⟨14,ix,sub,tg,la,cr,sz,size,code,data,sq,bl,em,sum⟩:Ms),Ae:=A,ne:=n,ce:=c,A2:=A',n2:=n,c2:=c' }) h2 HEX.out (fun h=>absurd rfl h) HNM.out (fun _=>List.mem_cons_self));clear h2;go_wp2_with fail
 rw[HP.out];exact HF.out
theorem zxw (S:CliS)(R:CR)(M:Ms)(A:Option Addr)(n c:Nat)(W:World)(h:CM w0 G p m S.wk (cliL S m R) ks rs W)(hw:1≤S.wk∧S.wk≤21)(hE:EOk S R)(hb:⟨R.A,R.n,R.c,S.b⟩ ∈ rs)(hn2:R.n2=S.data.length)(hd:S.data= [])(hl:S.b.length≤100000)(hM:⟨A,n,c,M.data⟩ ∈ rs)(hsz:M.size≤4294967295)(hk:M.kind=19) :
 Calls Tryz.prog 143 #[.pointer (some ⟨p,0,none⟩),.agg (msV M A n c)] W (zw3 w0 G p m (cStepS S M) (cStepL S M)):=by
 obtain⟨k,ix,sub,tg,la,cr,sz,size,code,data,sq,bl,em,sum⟩:=M;obtain rfl:k=19:=hk;dsimp only at *
 have hks:True:=trivial;have H1:Hid (CM w0 G p m S.wk (cliL S m R) ks rs (W.alloc (.cells (msV (⟨19,ix,sub,tg,la,cr,sz,size,code,data,sq,bl,em,sum⟩:Ms) A n c) 95))):=zak (h.alloc _);have q:=zdg W 95 (msV (⟨19,ix,sub,tg,la,cr,sz,size,code,data,sq,bl,em,sum⟩:Ms) A n c);have HW:=zak hw;have HE:=zak hE;have HBB:=zak hb;have HN2:=zak hn2;have HD:=zak hd;obtain⟨P,hP⟩:∃P,P=zw3 w0 G p m (cStepS S (⟨19,ix,sub,tg,la,cr,sz,size,code,data,sq,bl,em,sum⟩:Ms)) (cStepL S (⟨19,ix,sub,tg,la,cr,sz,size,code,data,sq,bl,em,sum⟩:Ms)):=⟨_,rfl⟩;have HP:Hid (P=zw3 w0 G p m { cExp S (⟨19,ix,sub,tg,la,cr,sz,size,code,data,sq,bl,em,sum⟩:Ms) with wk:=21 } (cSend S [busM])):=zak (by rw[hP];rfl)
 rw[←hP];have z1:=H1.out.lt;have HK2:=zak hks;have HX:Hid (CM w0 G p m S.wk (cliL (cExp S (⟨19,ix,sub,tg,la,cr,sz,size,code,data,sq,bl,em,sum⟩:Ms)) m { R with E:=(⟨19,ix,sub,tg,la,cr,sz,size,code,data,sq,bl,em,sum⟩:Ms),Ae:=A,ne:=n,ce:=c }) (⟨W.heap.size,95,[.int .i64 19,.int .i64 ix,.int .i64 sub,.bool tg,.bool la,.bool cr,.bool sz,.int .u32 (size:Nat),.int .u32 (code:Nat),.slice A n c,.int .i64 sq,.int .i64 bl,.int .i64 em,.int .u16 (sum:Nat)]⟩ :: ks) rs ((W.alloc (.cells (msV (⟨19,ix,sub,tg,la,cr,sz,size,code,data,sq,bl,em,sum⟩:Ms) A n c) 95)).setCells p 21 [.int .i64 19,.int .i64 ix,.int .i64 sub,.bool tg,.bool la,.bool cr,.bool sz,.int .u32 (size:Nat),.int .u32 (code:Nat),.slice A n c,.int .i64 sq,.int .i64 bl,.int .i64 em,.int .u16 (sum:Nat)])):=zak ((h.new 95 [.int .i64 19,.int .i64 ix,.int .i64 sub,.bool tg,.bool la,.bool cr,.bool sz,.int .u32 (size:Nat),.int .u32 (code:Nat),.slice A n c,.int .i64 sq,.int .i64 bl,.int .i64 em,.int .u16 (sum:Nat)] (by decide)).sets [.int .i64 19,.int .i64 ix,.int .i64 sub,.bool tg,.bool la,.bool cr,.bool sz,.int .u32 (size:Nat),.int .u32 (code:Nat),.slice A n c,.int .i64 sq,.int .i64 bl,.int .i64 em,.int .u16 (sum:Nat)] 21 (by simp[cliL]))
 have HEX:Hid (EOk (cExp S (⟨19,ix,sub,tg,la,cr,sz,size,code,data,sq,bl,em,sum⟩:Ms)) { R with E:=(⟨19,ix,sub,tg,la,cr,sz,size,code,data,sq,bl,em,sum⟩:Ms),Ae:=A,ne:=n,ce:=c }):=zak ⟨rfl,rfl,rfl,hsz⟩;have fz:=fun i=>H1.out.blk.frozen i
 obtain⟨a21,a22,a23,a24,a25,a26,a27,a28,a29,a30,a31,a32,a33,a34⟩:=zej H1.out.blk;unfold msV at a21 a22 a23 a24 a25 a26 a27 a28 a29 a30 a31 a32 a33 a34;unfold msV at HX fz z1;simp only[World.setCells,Nat.reduceAdd] at HX;clear hw hE hb hn2 hd hl hM hsz hks;clear hP h;unfold msV at H1 q ⊢;obtain⟨cI,cJ,cK,cS,de,dg,dN,dO,dP,dQ,cT,dH,dI,dJ⟩:=zde q;have ei:=q.frozen;clear q;go_enter Tryz.func143,Tryz.ntmps143
 go_wp2_with fail
 refine (zem 21 _ HX.out rfl ⟨by have:=HW.out.1;omega,HW.out.2⟩ ⟨by omega,by omega⟩).mono ?_;rintro e W2 ⟨rfl,h2⟩;have H2:Hid (CM w0 G p m 21 (cliL { cExp S (⟨19,ix,sub,tg,la,cr,sz,size,code,data,sq,bl,em,sum⟩:Ms) with wk:=21 } m { R with E:=(⟨19,ix,sub,tg,la,cr,sz,size,code,data,sq,bl,em,sum⟩:Ms),Ae:=A,ne:=n,ce:=c }) (⟨W.heap.size,95,[.int .i64 19,.int .i64 ix,.int .i64 sub,.bool tg,.bool la,.bool cr,.bool sz,.int .u32 (size:Nat),.int .u32 (code:Nat),.slice A n c,.int .i64 sq,.int .i64 bl,.int .i64 em,.int .u16 (sum:Nat)]⟩ :: ks) rs W2):=zak h2;have z2:=h2.lt;clear h2 HX;go_upto_region 22 with fail
 have HD9:=zak (H2.out.alloc (.cells (msV busM none 0 0) 95));have HB9:=zak (zdg W2 95 (msV busM none 0 0));unfold msV busM at HD9 HB9;go_wp2_with fail
 refine (zhb p (1536+S.nd) [busM] _ 1 1 _ (HD9.out.blk.cell 1 rfl) rfl (zg4 (M:=busM) HB9.out rfl (Sl.nil _ _)) (by intro M hM;simp at hM;subst hM;exact⟨Nat.zero_le _,Nat.zero_le _,Nat.zero_le _⟩) (by omega)).mono ?_;rintro e w6 ⟨As,ns,cs,ds,rfl,hO,hb⟩;have HF:=zak (zwm (S:={ cExp S (⟨19,ix,sub,tg,la,cr,sz,size,code,data,sq,bl,em,sum⟩:Ms) with wk:=21 }) (R:={ R with E:=(⟨19,ix,sub,tg,la,cr,sz,size,code,data,sq,bl,em,sum⟩:Ms),Ae:=A,ne:=n,ce:=c }) (L:=[busM]) HD9.out HEX.out (fun _=>HBB.out) HN2.out (fun h=>absurd HD.out h) ⟨As,ns,cs,ds,rfl,hO,hb⟩);clear hO;go_wp2_with fail
 rw[HP.out];exact HF.out
end
structure MsB (M:Ms):Prop where
 k:12≤M.kind∧M.kind≤21
 dl:M.data.length≤7
 em:0≤M.em∧M.em≤7
 sum:M.sum≤65535
 bl:0≤M.bl∧M.bl≤1000
 sq:0≤M.sq∧M.sq≤1000
 size:M.size≤4294967295
structure ClB (S:CliS):Prop where
 wk:1≤S.wk∧S.wk≤21
 dz:S.data= []
 bl:S.b.length≤100000
 at_:0≤S.at_∧S.at_≤1000000
 ro:0≤S.ro∧S.ro≤1000
theorem zxx (w:World)(G:Nat→Prop)(p m:Nat)(S:CliS)(M:Ms)(hS:ClB S)(hB:MsB M):StepC w G p m S M:=by
 intro W R ks rs A n c h hE hb hn2 hM;have hw0:0≤S.wk∧S.wk≤21:=⟨by have:=hS.wk.1;omega,hS.wk.2⟩;have hk:M.kind=12∨M.kind=13∨M.kind=14∨M.kind=15∨M.kind=16∨M.kind=17∨M.kind=18∨M.kind=19∨M.kind=20∨M.kind=21:=by have:=hB.k;omega
 rcases hk with hk | hk | hk | hk | hk | hk | hk | hk | hk | hk
 · exact zw0 S R M A n c W h hw0 hE hb hn2 hS.dz hS.bl hS.at_.1 hk
 · exact zxn S R M A n c W h hS.wk hE hb hn2 hS.dz hS.bl hM hS.at_.1 hk
 · by_cases hz:M.data= []
   · exact zxu S R M A n c W h hS.wk hE hb hn2 hS.dz hS.bl hM hB.size hB.dl hz hk
   · exact zxv S R M A n c W h hS.wk hE hb hn2 hS.dz hS.bl hM hB.size hB.dl hz hk
 · exact zxo S R M A n c W h hS.wk hE hb hn2 hS.dz hS.bl hM hB.dl hk
 · exact zxr S R M A n c W h hS.wk hE hb hn2 hS.dz hS.bl hM hS.at_.1 hB.bl hk
 · exact zxs S R M A n c W h hS.wk hE hb hn2 hS.dz hS.bl hM hS.at_.1 hB.bl hB.sq hS.at_.2 hk
 · exact zxt S R M A n c W h hS.wk hE hb hn2 hS.dz hS.bl hM hk
 · exact zxw S R M A n c W h hS.wk hE hb hn2 hS.dz hS.bl hM hB.size hk
 · exact zxp S R M A n c W h hS.wk hE hb hn2 hS.dz hS.bl hM hB.em hB.sum hk
 · exact zxq S R M A n c W h hS.wk hE hb hn2 hS.dz hS.bl hM hB.dl hS.ro hk
end
section
open Go.RowKit Go.Maps
theorem zxy (ks:List Int)(b:List UInt8):(resM ks b).size≤4294967295∧(resM ks b).sum≤65535:=by
 unfold resM;split
 · have h:∀ks,∀x,ofM ks b=some x→x.size≤4294967295∧x.sum≤65535:=by
    intro ks
    induction ks with
    | nil=>intro x hx;cases hx
    | cons k ks ih=>
      intro x hx;unfold ofM at hx;split at hx
      · injection hx with hx
        subst hx;exact⟨(zgg k b).1,(zgg k b).2.2⟩
      · exact ih x hx
   cases ho:ofM ks b with
   | none=>exact⟨Nat.zero_le _,Nat.zero_le _⟩
   | some x=>exact h ks x ho
 · exact⟨Nat.zero_le _,Nat.zero_le _⟩
theorem zxz (S:CliS)(b:List UInt8)(he:errI (cKs S b) b=0)(hk:(resM (cKs S b) b).kind≠1):MsB (resM (cKs S b) b):=by
 obtain⟨r1,r2,r3,r4,r5,r6,r7,r8,r9,r10,r11⟩:=zqw (zcu _ _ he).1;obtain⟨h1,h2⟩:=zxy (cKs S b) b;exact⟨zw6 S b he hk,r11,⟨r9,r10⟩,h2,⟨r7,by omega⟩,⟨r5,by omega⟩,h1⟩
theorem zx0 {G:Nat→Prop}{p m:Nat}(S:CliS)(f:Frm)(A:Option Addr)(n c:Nat)(w:World)(hS:CV_ w G p m S)(hw:0≤S.wk∧S.wk≤21)(hB:S.wk≠0→ClB S)(hn:n=f.data.length)(hc:n≤c)(hs:Sl w A (f.data.map bv)) :
 Calls Tryz.prog 78 #[.pointer (some ⟨p,0,none⟩),.agg #[.int .i64 f.id,.bool f.re,.slice A n c]] w (zw3 w G p m (cRecvS S f) (cRecvL S f)):=by
 by_cases hno:S.wk=0∨f.id≠1408+S.nd∨f.re=true∨f.data.length≠8
 · rw[show cRecvS S f=S by unfold cRecvS;rw[if_pos hno],show cRecvL S f= [] by unfold cRecvL;rw[if_pos hno]];exact zw1 S f A n c w hS hw hn hno
 · have h0:S.wk≠0:=fun e=>hno (.inl e)
   have hen:S.en≤4294967295:=by
    obtain⟨R,_,_,hE,_⟩:=hS;exact hE.2.2.2
   exact zw8 S f A n c w hS hw hen hn hc hs h0 (by
    by_cases h:f.id=1408+S.nd
    · exact h
    · exact absurd (.inr (.inl h)) hno) (by
    cases h:f.re
    · rfl
    · exact absurd (.inr (.inr (.inl h))) hno) (by
    by_cases h:f.data.length=8
    · exact h
    · exact absurd (.inr (.inr (.inr h))) hno) (fun he hk hf=>zxx w G p m S _ (hB h0) (zxz S _ he hk))
end
section
open Go.RowKit Go.Maps
section
variable {w0:World} {G:Nat→Prop} {p m:Nat} {ks:List KB} {rs:List RB}
def placeM (k ix sub:Int):Ms:=⟨k,ix,sub,false,false,false,false,0,0,[],0,0,0,0⟩
theorem zx1 (S:CliS)(R:CR)(k:Int)(W:World)(h:CM w0 G p m S.wk (cliL S m R) ks rs W) :
 Calls Tryz.prog 81 #[.pointer (some ⟨p,0,none⟩),.int .i64 k] W fun e W'=>e= .returned (.agg (msV (placeM k S.ix S.sub) none 0 0))∧ Below W.heap.size W W':=by
 have H1:=zak (h.alloc (.cells (msV msZ none 0 0) 95));have hbw:=zc5 (Below.refl W.heap.size W) (.cells (msV msZ none 0 0) 95);have HB:=zak hbw;clear h hbw;unfold msV msZ at H1 HB;go_enter Tryz.func81,Tryz.ntmps81
 go_upto_region 1 with fail
 refine zed (P:=fun W1=>CM w0 G p m S.wk (cliL S m R) ks rs W1∧Below W.heap.size W W1∧W1.heap.size=W.heap.size+1∧Blk W1 W.heap.size 95 (msV msZ none 0 0)) ⟨H1.out,HB.out,by simp,zdg W _ _⟩ (fun W1 h1=>?_);clear H1 HB;obtain⟨h1,hb,hz,hq⟩:=h1;have H1:=zak h1;have HB:=zak hb;have z1:=h1.lt;obtain⟨a3,a4,a5,a6,a7,a8,a9,a10,a11,a12,a13,a14,a15,a16⟩:=zei h1.blk;have zq:=hq.lt;have hsq:Blk (W1.setCells W.heap.size 0 (msV (placeM k S.ix S.sub) none 0 0).toList) W.heap.size 95 (msV (placeM k S.ix S.sub) none 0 0):=zea (msV (placeM k S.ix S.sub) none 0 0).toList 0 (l:=(msV msZ none 0 0).toList) hq (by simp[msV])
 have hso:Below W.heap.size W (W1.setCells W.heap.size 0 (msV (placeM k S.ix S.sub) none 0 0).toList):=zd1 (zeb (F:=fun q=>q=W.heap.size) rfl _ _ (zd0.refl _ _)) hb (fun i h=>by omega);have HSQ:=zak (And.intro (hsq.alloc (.cells (msV (placeM k S.ix S.sub) none 0 0) 95)) (zc5 hso (.cells (msV (placeM k S.ix S.sub) none 0 0) 95)));clear hsq hso;have HZ:=zak hz;unfold msV msZ at hq;obtain⟨eK,eL,eM,eN,eP,eQ,nf,nh,ni,nj,lY,lZ,l4,l5⟩:=zde hq;have iF:=hq.frozen;have hne:W.heap.size < W1.heap.size:=zq;clear h1 hb hz;go_wp2_with fail
 exact zl1 (g:=W.heap.size) (M:=placeM k S.ix S.sub) (A:=none) (n:=0) (c:=0) rfl rfl rfl HSQ.out.1 ⟨rfl,HSQ.out.2⟩
end
def crZ:CR:=⟨msZ,none,0,0,none,0,0,none,0,0⟩
theorem zx2 (node:Int)(w:World)(h:1≤node∧node≤127) :
 Calls Tryz.prog 77 #[.int .i64 node] w fun e w'=> ∃p m,e= .returned (.tuple #[.pointer (some ⟨p,0,none⟩),.int .i64 0])∧ CV_ w' (fun _=>False) p m (cliZ node)∧ Below w.heap.size w w'∧w.heap.size≤p∧w.heap.size≤m:=by
 have hmm:= @run_makeMap Tryz.prog;have HN:=zak h;clear h;go_enter Tryz.func77,Tryz.ntmps77
 go_wp2_with fail
 refine (znc 7 (.inl rfl) node HN.out _).mono ?_;rintro e w1 ⟨rfl,hb1⟩;go_wp2_with fail
 refine (znc 8 (.inr rfl) node HN.out _).mono ?_;rintro e w2 ⟨rfl,hb2⟩;have HB:=zak (zc4 hb2 hb1);clear hb1 hb2;have hq:=Blk.new (w2.alloc (.map #[] 0)) 158 (cliL (cliZ node) w2.heap.size crZ).toArray;rw[show (w2.alloc (.map #[] 0)).heap.size=w2.heap.size+1 by simp] at hq;have hm:WM ((w2.alloc (.map #[] 0)).alloc (.cells (cliL (cliZ node) w2.heap.size crZ).toArray 158)) w2.heap.size 0:=(zeg w2).keep ((zc5 (Below.refl _ (w2.alloc (.map #[] 0))) (.cells (cliL (cliZ node) w2.heap.size crZ).toArray 158)).block _ (by simp));have hz2:=HB.out.size;have HF:Hid (CV_ ((w2.alloc (.map #[] 0)).alloc (.cells (cliL (cliZ node) w2.heap.size crZ).toArray 158)) (fun _=>False) (w2.heap.size+1) w2.heap.size (cliZ node)∧ Below w.heap.size w ((w2.alloc (.map #[] 0)).alloc (.cells (cliL (cliZ node) w2.heap.size crZ).toArray 158))):=zak ⟨⟨crZ,hq,hm,⟨rfl,rfl,rfl,Nat.zero_le _⟩,fun h=>absurd rfl h,rfl,fun h=>absurd rfl h⟩,zc5 (zc5 HB.out _) _⟩
 clear hq hm;go_wp2_with fail
 go_ret2
 exact⟨_,_,rfl,HF.out.1,HF.out.2,by omega,hz2⟩
theorem zx3 (node:Int)(w:World)(h: ¬(1≤node∧node≤127)) :
 Calls Tryz.prog 77 #[.int .i64 node] w fun e w'=>e= .returned (.tuple #[.pointer none,.int .i64 1])∧ Below w.heap.size w w':=by
 have HN:=zak h;clear h;go_enter Tryz.func77,Tryz.ntmps77
 go_wp2_with fail
 refine (znd 7 (.inl rfl) node HN.out _).mono ?_;rintro e w1 ⟨rfl,hb1⟩;go_wp2_with fail
 refine (znd 8 (.inr rfl) node HN.out _).mono ?_;rintro e w2 ⟨rfl,hb2⟩;have HB:=zak (zc4 hb2 hb1);clear hb1 hb2;go_wp2_with fail
 go_ret2
 exact⟨rfl,HB.out⟩
end
end Go.Proofs.YtkkpjbjmhaecjaaGreat
