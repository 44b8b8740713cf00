/- None -/
import Derived.Test.YthdbckbpldlkeaaQ18
namespace Go.Proofs.Ythdbckbpldlkeaa
set_option linter.unusedVariables false
set_option linter.unusedSimpArgs false
set_option linter.unnecessarySimpa false
section
open Go.RowKit Go.Maps
set_option maxRecDepth 100000
set_option maxHeartbeats 8000000
section
variable {w0:World} {G:Nat→Prop} {p m:Nat} {ks:List KB} {rs:List RB}
theorem zgx (S:CliS) (R:CR) (most:Int) (W:World) (h:CM w0 G p m S.wk (cliL S m R) ks rs W) (hw:0≤S.wk∧S.wk≤21) (hE:EOk S R) (hb:⟨R.A,R.n,R.c,S.b⟩ ∈ rs) (hn2:R.n2=S.data.length) (hd:S.data= []) (hl:S.b.length≤100000) (ha:0≤S.at_) (hm:0≤most∧most≤1000) :
 Calls Try.prog 58 #[.pointer (some ⟨p,0,none⟩),.int .i64 most] W (zf4 w0 G p m (cRowsS S most) (cRowsL S most)):= by
 by_cases h1:(btotal S.b:Int)≤ S.at_
 · exact zgv S R most W h hw hE hb hn2 hd hl h1
 · exact zgw S R most W h hw hE hb hn2 hd hl S.at_.toNat (by omega) (by omega) hm
theorem zgy (S:CliS) (R:CR) (M:Ms) (A:Option Addr) (n c:Nat) (W:World) (h:CM w0 G p m S.wk (cliL S m R) ks rs W) (hw:1≤S.wk∧S.wk≤21) (hE:EOk S R) (hb:⟨R.A,R.n,R.c,S.b⟩ ∈ rs) (hn2:R.n2=S.data.length) (hd:S.data= []) (hl:S.b.length≤100000) (hM:⟨A,n,c,M.data⟩ ∈ rs) (ha:0≤S.at_) (hk:M.kind=13) :
 Calls Try.prog 38 #[.pointer (some ⟨p,0,none⟩),.agg (msV M A n c)] W (zf4 w0 G p m (cStepS S M) (cStepL S M)):= by
 obtain⟨k,ix,sub,tg,la,cr,sz,size,code,data,sq,bl,em,sum⟩:= M
 obtain rfl:k=13:=hk
 dsimp only at *
 have H1:Hid (CM w0 G p m S.wk (cliL S m R) ks rs (W.alloc (.cells (msV (⟨13,ix,sub,tg,la,cr,sz,size,code,data,sq,bl,em,sum⟩:Ms) A n c) 63))):= zak (h.alloc _)
 have q:=zbu W 63 (msV (⟨13,ix,sub,tg,la,cr,sz,size,code,data,sq,bl,em,sum⟩:Ms) A n c)
 have HW:=zak hw
 have HE:=zak hE
 have HBB:=zak hb
 have HN2:=zak hn2
 have HD:=zak hd
 obtain⟨P,hP⟩:∃ P,P=zf4 w0 G p m (cStepS S (⟨13,ix,sub,tg,la,cr,sz,size,code,data,sq,bl,em,sum⟩:Ms)) (cStepL S (⟨13,ix,sub,tg,la,cr,sz,size,code,data,sq,bl,em,sum⟩:Ms)):= ⟨_,rfl⟩
 have HP:Hid (P=zf4 w0 G p m (cSegS { S with tg:=!S.tg }) (cSegL { S with tg:=!S.tg })):= zak (by rw[hP];rfl)
 rw[← hP]
 have z1:=H1.out.lt
 have HS:=zak (fun W h=>zf1 (w0:=w0) (G:=G) (p:=p) (m:=m) (ks:=ks) (rs:=rs) { S with tg:=!S.tg } R W h ⟨by have:=hw.1;simp only;omega,hw.2⟩ hE hb hn2 hd hl ha)
 have c20:(W.alloc (.cells (msV (⟨13,ix,sub,tg,la,cr,sz,size,code,data,sq,bl,em,sum⟩:Ms) A n c) 63)).cell? ⟨p,20,none⟩=some (.bool S.tg):= H1.out.blk.cell 20 rfl
 have f20:=H1.out.blk.frozen 20
 unfold msV at c20 f20 z1
 clear hw hE hb hn2 hd hl ha hM
 clear hP h
 unfold msV at H1 q ⊢
 have q0:_=some (Value.int .i64 13):= q.cell 0 rfl
 clear q
 go_enter Try.func38,Try.ntmps38
 go_wp2_with fail
 refine (HS.out _ (H1.out.set 20 _)).mono ?_
 rw[← HP.out]
 rintro e W2 hR
 obtain⟨As,ns,cs,rfl⟩:∃ As ns cs,e= .returned (.slice As ns cs):= by
  rw[HP.out] at hR
  exact hR.shape
 have HR:=zak hR
 clear hR
 go_wp2_with fail
 exact HR.out
theorem zgz (S:CliS) (R:CR) (M:Ms) (A:Option Addr) (n c:Nat) (W:World) (h:CM w0 G p m S.wk (cliL S m R) ks rs W) (hw:1≤S.wk∧S.wk≤21) (hE:EOk S R) (hb:⟨R.A,R.n,R.c,S.b⟩ ∈ rs) (hn2:R.n2=S.data.length) (hd:S.data= []) (hl:S.b.length≤100000) (hM:⟨A,n,c,M.data⟩ ∈ rs) (hMl:M.data.length≤7) (hk:M.kind=15) :
 Calls Try.prog 38 #[.pointer (some ⟨p,0,none⟩),.agg (msV M A n c)] W (zf4 w0 G p m (cStepS S M) (cStepL S M)):= by
 obtain⟨k,ix,sub,tg,la,cr,sz,size,code,data,sq,bl,em,sum⟩:= M
 obtain rfl:k=15:=hk
 dsimp only at *
 have H1:Hid (CM w0 G p m S.wk (cliL S m R) ks rs (W.alloc (.cells (msV (⟨15,ix,sub,tg,la,cr,sz,size,code,data,sq,bl,em,sum⟩:Ms) A n c) 63))):= zak (h.alloc _)
 have q:=zbu W 63 (msV (⟨15,ix,sub,tg,la,cr,sz,size,code,data,sq,bl,em,sum⟩:Ms) A n c)
 have HW:=zak hw
 have HE:=zak hE
 have HBB:=zak hb
 have HN2:=zak hn2
 have HD:=zak hd
 obtain⟨P,hP⟩:∃ P,P=zf4 w0 G p m (cStepS S (⟨15,ix,sub,tg,la,cr,sz,size,code,data,sq,bl,em,sum⟩:Ms)) (cStepL S (⟨15,ix,sub,tg,la,cr,sz,size,code,data,sq,bl,em,sum⟩:Ms)):= ⟨_,rfl⟩
 have HP:Hid (P=zf4 w0 G p m (cPcS S (⟨15,ix,sub,tg,la,cr,sz,size,code,data,sq,bl,em,sum⟩:Ms)) (cPcL S (⟨15,ix,sub,tg,la,cr,sz,size,code,data,sq,bl,em,sum⟩:Ms))):= zak (by rw[hP];rfl)
 rw[← hP]
 have z1:=H1.out.lt
 have HS:=zak (fun W h=>zgc (w0:=w0) (G:=G) (p:=p) (m:=m) (ks:=ks) S R (⟨15,ix,sub,tg,la,cr,sz,size,code,data,sq,bl,em,sum⟩:Ms) A n c W rs h ⟨by have:=hw.1;omega,hw.2⟩ hE hb hn2 hd hl hM hMl)
 clear hw hE hb hn2 hd hl hM hMl
 clear hP h
 unfold msV at H1 q ⊢
 obtain⟨q_c0,q_c1,q_c2,q_c3,q_c4,q_c5,q_c6,q_c7,q_c8,q_c9,q_c10,q_c11,q_c12,q_c13⟩:= zbs q
 have q_f:=q.frozen
 clear q
 go_enter Try.func38,Try.ntmps38
 go_wp2_with fail
 refine (HS.out _ H1.out).mono ?_
 rw[← HP.out]
 rintro e W2 hR
 obtain⟨As,ns,cs,rfl⟩:∃ As ns cs,e= .returned (.slice As ns cs):= by
  rw[HP.out] at hR
  exact hR.shape
 have HR:=zak hR
 clear hR
 go_wp2_with fail
 exact HR.out
theorem zg0 (S:CliS) (R:CR) (M:Ms) (A:Option Addr) (n c:Nat) (W:World) (h:CM w0 G p m S.wk (cliL S m R) ks rs W) (hw:1≤S.wk∧S.wk≤21) (hE:EOk S R) (hb:⟨R.A,R.n,R.c,S.b⟩ ∈ rs) (hn2:R.n2=S.data.length) (hd:S.data= []) (hl:S.b.length≤100000) (hM:⟨A,n,c,M.data⟩ ∈ rs) (hem:0≤M.em∧M.em≤7) (hsum:M.sum≤65535) (hk:M.kind=20) :
 Calls Try.prog 38 #[.pointer (some ⟨p,0,none⟩),.agg (msV M A n c)] W (zf4 w0 G p m (cStepS S M) (cStepL S M)):= by
 obtain⟨k,ix,sub,tg,la,cr,sz,size,code,data,sq,bl,em,sum⟩:= M
 obtain rfl:k=20:=hk
 dsimp only at *
 have H1:Hid (CM w0 G p m S.wk (cliL S m R) ks rs (W.alloc (.cells (msV (⟨20,ix,sub,tg,la,cr,sz,size,code,data,sq,bl,em,sum⟩:Ms) A n c) 63))):= zak (h.alloc _)
 have q:=zbu W 63 (msV (⟨20,ix,sub,tg,la,cr,sz,size,code,data,sq,bl,em,sum⟩:Ms) A n c)
 have HW:=zak hw
 have HE:=zak hE
 have HBB:=zak hb
 have HN2:=zak hn2
 have HD:=zak hd
 obtain⟨P,hP⟩:∃ P,P=zf4 w0 G p m (cStepS S (⟨20,ix,sub,tg,la,cr,sz,size,code,data,sq,bl,em,sum⟩:Ms)) (cStepL S (⟨20,ix,sub,tg,la,cr,sz,size,code,data,sq,bl,em,sum⟩:Ms)):= ⟨_,rfl⟩
 have HP:Hid (P=zf4 w0 G p m (cLsS S (⟨20,ix,sub,tg,la,cr,sz,size,code,data,sq,bl,em,sum⟩:Ms)) (cLsL S (⟨20,ix,sub,tg,la,cr,sz,size,code,data,sq,bl,em,sum⟩:Ms))):= zak (by rw[hP];rfl)
 rw[← hP]
 have z1:=H1.out.lt
 have HS:=zak (fun W h=>zgq (w0:=w0) (G:=G) (p:=p) (m:=m) (ks:=ks) S R (⟨20,ix,sub,tg,la,cr,sz,size,code,data,sq,bl,em,sum⟩:Ms) A n c W rs h ⟨by have:=hw.1;omega,hw.2⟩ hE hb hn2 hd hl hem hsum)
 clear hw hE hb hn2 hd hl hM hem hsum
 clear hP h
 unfold msV at H1 q ⊢
 obtain⟨q_c0,q_c1,q_c2,q_c3,q_c4,q_c5,q_c6,q_c7,q_c8,q_c9,q_c10,q_c11,q_c12,q_c13⟩:= zbs q
 have q_f:=q.frozen
 clear q
 go_enter Try.func38,Try.ntmps38
 go_wp2_with fail
 refine (HS.out _ H1.out).mono ?_
 rw[← HP.out]
 rintro e W2 hR
 obtain⟨As,ns,cs,rfl⟩:∃ As ns cs,e= .returned (.slice As ns cs):= by
  rw[HP.out] at hR
  exact hR.shape
 have HR:=zak hR
 clear hR
 go_wp2_with fail
 exact HR.out
theorem zg1 (S:CliS) (R:CR) (M:Ms) (A:Option Addr) (n c:Nat) (W:World) (h:CM w0 G p m S.wk (cliL S m R) ks rs W) (hw:1≤S.wk∧S.wk≤21) (hE:EOk S R) (hb:⟨R.A,R.n,R.c,S.b⟩ ∈ rs) (hn2:R.n2=S.data.length) (hd:S.data= []) (hl:S.b.length≤100000) (hM:⟨A,n,c,M.data⟩ ∈ rs) (hMl:M.data.length≤7) (hro:0≤S.ro∧S.ro≤1000) (hk:M.kind=21) :
 Calls Try.prog 38 #[.pointer (some ⟨p,0,none⟩),.agg (msV M A n c)] W (zf4 w0 G p m (cStepS S M) (cStepL S M)):= by
 obtain⟨k,ix,sub,tg,la,cr,sz,size,code,data,sq,bl,em,sum⟩:= M
 obtain rfl:k=21:=hk
 dsimp only at *
 have H1:Hid (CM w0 G p m S.wk (cliL S m R) ks rs (W.alloc (.cells (msV (⟨21,ix,sub,tg,la,cr,sz,size,code,data,sq,bl,em,sum⟩:Ms) A n c) 63))):= zak (h.alloc _)
 have q:=zbu W 63 (msV (⟨21,ix,sub,tg,la,cr,sz,size,code,data,sq,bl,em,sum⟩:Ms) A n c)
 have HW:=zak hw
 have HE:=zak hE
 have HBB:=zak hb
 have HN2:=zak hn2
 have HD:=zak hd
 obtain⟨P,hP⟩:∃ P,P=zf4 w0 G p m (cStepS S (⟨21,ix,sub,tg,la,cr,sz,size,code,data,sq,bl,em,sum⟩:Ms)) (cStepL S (⟨21,ix,sub,tg,la,cr,sz,size,code,data,sq,bl,em,sum⟩:Ms)):= ⟨_,rfl⟩
 have HP:Hid (P=zf4 w0 G p m (cTkS S (⟨21,ix,sub,tg,la,cr,sz,size,code,data,sq,bl,em,sum⟩:Ms)) (cTkL S (⟨21,ix,sub,tg,la,cr,sz,size,code,data,sq,bl,em,sum⟩:Ms))):= zak (by rw[hP];rfl)
 rw[← hP]
 have z1:=H1.out.lt
 have HS:=zak (fun W h=>zge (w0:=w0) (G:=G) (p:=p) (m:=m) (ks:=ks) S R (⟨21,ix,sub,tg,la,cr,sz,size,code,data,sq,bl,em,sum⟩:Ms) A n c W rs h hw hE hb hn2 hd hl hM hMl hro)
 clear hw hE hb hn2 hd hl hM hMl hro
 clear hP h
 unfold msV at H1 q ⊢
 obtain⟨q_c0,q_c1,q_c2,q_c3,q_c4,q_c5,q_c6,q_c7,q_c8,q_c9,q_c10,q_c11,q_c12,q_c13⟩:= zbs q
 have q_f:=q.frozen
 clear q
 go_enter Try.func38,Try.ntmps38
 go_wp2_with fail
 refine (HS.out _ H1.out).mono ?_
 rw[← HP.out]
 rintro e W2 hR
 obtain⟨As,ns,cs,rfl⟩:∃ As ns cs,e= .returned (.slice As ns cs):= by
  rw[HP.out] at hR
  exact hR.shape
 have HR:=zak hR
 clear hR
 go_wp2_with fail
 exact HR.out
theorem zg4 (S:CliS) (R:CR) (M:Ms) (A:Option Addr) (n c:Nat) (W:World) (h:CM w0 G p m S.wk (cliL S m R) ks rs W) (hw:1≤S.wk∧S.wk≤21) (hE:EOk S R) (hb:⟨R.A,R.n,R.c,S.b⟩ ∈ rs) (hn2:R.n2=S.data.length) (hd:S.data= []) (hl:S.b.length≤100000) (hM:⟨A,n,c,M.data⟩ ∈ rs) (ha:0≤S.at_) (hbl:0≤M.bl∧M.bl≤1000) (hk:M.kind=16) :
 Calls Try.prog 38 #[.pointer (some ⟨p,0,none⟩),.agg (msV M A n c)] W (zf4 w0 G p m (cStepS S M) (cStepL S M)):= by
 obtain⟨k,ix,sub,tg,la,cr,sz,size,code,data,sq,bl,em,sum⟩:= M
 obtain rfl:k=16:=hk
 dsimp only at *
 have H1:Hid (CM w0 G p m S.wk (cliL S m R) ks rs (W.alloc (.cells (msV (⟨16,ix,sub,tg,la,cr,sz,size,code,data,sq,bl,em,sum⟩:Ms) A n c) 63))):= zak (h.alloc _)
 have q:=zbu W 63 (msV (⟨16,ix,sub,tg,la,cr,sz,size,code,data,sq,bl,em,sum⟩:Ms) A n c)
 have HW:=zak hw
 have HE:=zak hE
 have HBB:=zak hb
 have HN2:=zak hn2
 have HD:=zak hd
 obtain⟨P,hP⟩:∃ P,P=zf4 w0 G p m (cStepS S (⟨16,ix,sub,tg,la,cr,sz,size,code,data,sq,bl,em,sum⟩:Ms)) (cStepL S (⟨16,ix,sub,tg,la,cr,sz,size,code,data,sq,bl,em,sum⟩:Ms)):= ⟨_,rfl⟩
 have HP:Hid (P=zf4 w0 G p m (cRowsS S bl) (cRowsL S bl)):= zak (by rw[hP];rfl)
 rw[← hP]
 have z1:=H1.out.lt
 have HS:=zak (fun W h=>zgx (w0:=w0) (G:=G) (p:=p) (m:=m) (ks:=ks) (rs:=rs) S R bl W h ⟨by have:=hw.1;first | omega | (simp only;omega),hw.2⟩ hE hb hn2 hd hl ha hbl)
 clear hw hE hb hn2 hd hl hM ha hbl
 clear hP h
 unfold msV at H1 q ⊢
 obtain⟨q_c0,q_c1,q_c2,q_c3,q_c4,q_c5,q_c6,q_c7,q_c8,q_c9,q_c10,q_c11,q_c12,q_c13⟩:= zbs q
 have q_f:=q.frozen
 clear q
 go_enter Try.func38,Try.ntmps38
 go_wp2_with fail
 refine (HS.out _ H1.out).mono ?_
 rw[← HP.out]
 rintro e W2 hR
 obtain⟨As,ns,cs,rfl⟩:∃ As ns cs,e= .returned (.slice As ns cs):= by
  rw[HP.out] at hR
  exact hR.shape
 have HR:=zak hR
 clear hR
 go_wp2_with fail
 exact HR.out
theorem zg6 (S:CliS) (R:CR) (M:Ms) (A:Option Addr) (n c:Nat) (W:World) (h:CM w0 G p m S.wk (cliL S m R) ks rs W) (hw:1≤S.wk∧S.wk≤21) (hE:EOk S R) (hb:⟨R.A,R.n,R.c,S.b⟩ ∈ rs) (hn2:R.n2=S.data.length) (hd:S.data= []) (hl:S.b.length≤100000) (hM:⟨A,n,c,M.data⟩ ∈ rs) (ha:0≤S.at_) (hbl:0≤M.bl∧M.bl≤1000) (hsq:0≤M.sq∧M.sq≤1000) (ha2:S.at_≤1000000) (hk:M.kind=17) :
 Calls Try.prog 38 #[.pointer (some ⟨p,0,none⟩),.agg (msV M A n c)] W (zf4 w0 G p m (cStepS S M) (cStepL S M)):= by
 obtain⟨k,ix,sub,tg,la,cr,sz,size,code,data,sq,bl,em,sum⟩:= M
 obtain rfl:k=17:=hk
 dsimp only at *
 have H1:Hid (CM w0 G p m S.wk (cliL S m R) ks rs (W.alloc (.cells (msV (⟨17,ix,sub,tg,la,cr,sz,size,code,data,sq,bl,em,sum⟩:Ms) A n c) 63))):= zak (h.alloc _)
 have q:=zbu W 63 (msV (⟨17,ix,sub,tg,la,cr,sz,size,code,data,sq,bl,em,sum⟩:Ms) A n c)
 have HW:=zak hw
 have HE:=zak hE
 have HBB:=zak hb
 have HN2:=zak hn2
 have HD:=zak hd
 obtain⟨P,hP⟩:∃ P,P=zf4 w0 G p m (cStepS S (⟨17,ix,sub,tg,la,cr,sz,size,code,data,sq,bl,em,sum⟩:Ms)) (cStepL S (⟨17,ix,sub,tg,la,cr,sz,size,code,data,sq,bl,em,sum⟩:Ms)):= ⟨_,rfl⟩
 have HP:Hid (P=zf4 w0 G p m (cRowsS { S with at_:=S.at_+sq } bl) (cRowsL { S with at_:=S.at_+sq } bl)):= zak (by rw[hP];rfl)
 rw[← hP]
 have z1:=H1.out.lt
 have HS:=zak (fun W h=>zgx (w0:=w0) (G:=G) (p:=p) (m:=m) (ks:=ks) (rs:=rs) { S with at_:=S.at_+sq } R bl W h ⟨by have:=hw.1;first | omega | (simp only;omega),hw.2⟩ hE hb hn2 hd hl (by have:=hsq.1;simp only;omega) hbl)
 have c18:(W.alloc (.cells (msV (⟨17,ix,sub,tg,la,cr,sz,size,code,data,sq,bl,em,sum⟩:Ms) A n c) 63)).cell? ⟨p,18,none⟩=some (.int .i64 S.at_):= H1.out.blk.cell 18 rfl
 have f18:=H1.out.blk.frozen 18
 unfold msV at c18 f18 z1
 have hwr:IntKind.i64.wrap (S.at_+sq)=S.at_+sq:=by unfold IntKind.wrap;simp[IntKind.signed,IntKind.bits];omega
 clear hw hE hb hn2 hd hl hM ha hbl hsq ha2
 clear hP h
 unfold msV at H1 q ⊢
 obtain⟨q_c0,q_c1,q_c2,q_c3,q_c4,q_c5,q_c6,q_c7,q_c8,q_c9,q_c10,q_c11,q_c12,q_c13⟩:= zbs q
 have q_f:=q.frozen
 clear q
 go_enter Try.func38,Try.ntmps38
 go_upto_region 17 with fail
 go_region
 go_wp2_with fail
 refine (HS.out _ (H1.out.drew.set 18 _)).mono ?_
 rw[← HP.out]
 rintro e W2 hR
 obtain⟨As,ns,cs,rfl⟩:∃ As ns cs,e= .returned (.slice As ns cs):= by
  rw[HP.out] at hR
  exact hR.shape
 have HR:=zak hR
 clear hR
 go_wp2_with fail
 exact HR.out
theorem zg7 (S:CliS) (R:CR) (M:Ms) (A:Option Addr) (n c:Nat) (W:World) (h:CM w0 G p m S.wk (cliL S m R) ks rs W) (hw:1≤S.wk∧S.wk≤21) (hE:EOk S R) (hb:⟨R.A,R.n,R.c,S.b⟩ ∈ rs) (hn2:R.n2=S.data.length) (hd:S.data= []) (hl:S.b.length≤100000) (hM:⟨A,n,c,M.data⟩ ∈ rs) (hk:M.kind=18) :
 Calls Try.prog 38 #[.pointer (some ⟨p,0,none⟩),.agg (msV M A n c)] W (zf4 w0 G p m (cStepS S M) (cStepL S M)):= by
 obtain⟨k,ix,sub,tg,la,cr,sz,size,code,data,sq,bl,em,sum⟩:= M
 obtain rfl:k=18:=hk
 dsimp only at *
 have H1:Hid (CM w0 G p m S.wk (cliL S m R) ks rs (W.alloc (.cells (msV (⟨18,ix,sub,tg,la,cr,sz,size,code,data,sq,bl,em,sum⟩:Ms) A n c) 63))):= zak (h.alloc _)
 have q:=zbu W 63 (msV (⟨18,ix,sub,tg,la,cr,sz,size,code,data,sq,bl,em,sum⟩:Ms) A n c)
 have HW:=zak hw
 have HE:=zak hE
 have HBB:=zak hb
 have HN2:=zak hn2
 have HD:=zak hd
 obtain⟨P,hP⟩:∃ P,P=zf4 w0 G p m (cStepS S (⟨18,ix,sub,tg,la,cr,sz,size,code,data,sq,bl,em,sum⟩:Ms)) (cStepL S (⟨18,ix,sub,tg,la,cr,sz,size,code,data,sq,bl,em,sum⟩:Ms)):= ⟨_,rfl⟩
 have HP:Hid (P=zf4 w0 G p m (cEnd S 0 []) []):= zak (by rw[hP];rfl)
 rw[← hP]
 have z1:=H1.out.lt
 clear hw hE hb hn2 hd hl hM
 clear hP h
 unfold msV at H1 q ⊢
 have q0:_=some (Value.int .i64 18):= q.cell 0 rfl
 clear q
 go_enter Try.func38,Try.ntmps38
 go_wp2_with fail
 refine (zc1 0 none 0 0 [] _ H1.out rfl rfl ⟨by have:=HW.out.1;omega,HW.out.2⟩ rfl (by omega) (fun _ _=>Sl.nil _ _)).mono ?_
 rintro e W2 ⟨rfl,A',c',h2⟩
 have HF:=zak (zfq (S:=cEnd S 0 []) (R:={ R with A2:=A',n2:=0,c2:=c' }) h2 HE.out (fun h=>absurd rfl h) rfl (fun h=>absurd rfl h))
 clear h2
 go_wp2_with fail
 rw[HP.out]
 exact HF.out
theorem zg8 (S:CliS) (R:CR) (M:Ms) (A:Option Addr) (n c:Nat) (W:World) (h:CM w0 G p m S.wk (cliL S m R) ks rs W) (hw:1≤S.wk∧S.wk≤21) (hE:EOk S R) (hb:⟨R.A,R.n,R.c,S.b⟩ ∈ rs) (hn2:R.n2=S.data.length) (hd:S.data= []) (hl:S.b.length≤100000) (hM:⟨A,n,c,M.data⟩ ∈ rs) (hsz:M.size≤4294967295) (hMl:M.data.length≤7) (hz:M.data= []) (hk:M.kind=14) :
 Calls Try.prog 38 #[.pointer (some ⟨p,0,none⟩),.agg (msV M A n c)] W (zf4 w0 G p m (cStepS S M) (cStepL S M)):= by
 obtain⟨k,ix,sub,tg,la,cr,sz,size,code,data,sq,bl,em,sum⟩:= M
 obtain rfl:k=14:=hk
 dsimp only at *
 have hnm:n=data.length:=(h.rows _ hM).1.hn
 have hks:True:=trivial
 have H1:Hid (CM w0 G p m S.wk (cliL S m R) ks rs (W.alloc (.cells (msV (⟨14,ix,sub,tg,la,cr,sz,size,code,data,sq,bl,em,sum⟩:Ms) A n c) 63))):= zak (h.alloc _)
 have q:=zbu W 63 (msV (⟨14,ix,sub,tg,la,cr,sz,size,code,data,sq,bl,em,sum⟩:Ms) A n c)
 have HW:=zak hw
 have HE:=zak hE
 have HBB:=zak hb
 have HN2:=zak hn2
 have HD:=zak hd
 obtain⟨P,hP⟩:∃ P,P=zf4 w0 G p m (cStepS S (⟨14,ix,sub,tg,la,cr,sz,size,code,data,sq,bl,em,sum⟩:Ms)) (cStepL S (⟨14,ix,sub,tg,la,cr,sz,size,code,data,sq,bl,em,sum⟩:Ms)):= ⟨_,rfl⟩
 have HP:Hid (P=zf4 w0 G p m (cMoreS (cExp S (⟨14,ix,sub,tg,la,cr,sz,size,code,data,sq,bl,em,sum⟩:Ms))) (cMoreL (cExp S (⟨14,ix,sub,tg,la,cr,sz,size,code,data,sq,bl,em,sum⟩:Ms)))):= zak (by
  rw[hP]
  show zf4 w0 G p m (if data≠ [] then _ else _) (if data≠ [] then _ else _)=_
  rw[if_neg (fun h=>h hz),if_neg (fun h=>h hz)]
  rfl)
 rw[← hP]
 have z1:=H1.out.lt
 have HK2:=zak hks
 have HX:Hid (CM w0 G p m S.wk (cliL (cExp S (⟨14,ix,sub,tg,la,cr,sz,size,code,data,sq,bl,em,sum⟩:Ms)) m { R with E:=(⟨14,ix,sub,tg,la,cr,sz,size,code,data,sq,bl,em,sum⟩:Ms),Ae:=A,ne:=n,ce:=c }) (⟨W.heap.size,63,[.int .i64 14,.int .i64 ix,.int .i64 sub,.bool tg,.bool la,.bool cr,.bool sz,.int .u32 (size:Nat),.int .u32 (code:Nat),.slice A n c,.int .i64 sq,.int .i64 bl,.int .i64 em,.int .u16 (sum:Nat)]⟩ :: ks) rs ((W.alloc (.cells (msV (⟨14,ix,sub,tg,la,cr,sz,size,code,data,sq,bl,em,sum⟩:Ms) A n c) 63)).setCells p 21 [.int .i64 14,.int .i64 ix,.int .i64 sub,.bool tg,.bool la,.bool cr,.bool sz,.int .u32 (size:Nat),.int .u32 (code:Nat),.slice A n c,.int .i64 sq,.int .i64 bl,.int .i64 em,.int .u16 (sum:Nat)])):= zak ((h.new 63 [.int .i64 14,.int .i64 ix,.int .i64 sub,.bool tg,.bool la,.bool cr,.bool sz,.int .u32 (size:Nat),.int .u32 (code:Nat),.slice A n c,.int .i64 sq,.int .i64 bl,.int .i64 em,.int .u16 (sum:Nat)] (by decide)).sets [.int .i64 14,.int .i64 ix,.int .i64 sub,.bool tg,.bool la,.bool cr,.bool sz,.int .u32 (size:Nat),.int .u32 (code:Nat),.slice A n c,.int .i64 sq,.int .i64 bl,.int .i64 em,.int .u16 (sum:Nat)] 21 (by simp[cliL]))
 have HEX:Hid (EOk (cExp S (⟨14,ix,sub,tg,la,cr,sz,size,code,data,sq,bl,em,sum⟩:Ms)) { R with E:=(⟨14,ix,sub,tg,la,cr,sz,size,code,data,sq,bl,em,sum⟩:Ms),Ae:=A,ne:=n,ce:=c }):= zak ⟨rfl,rfl,rfl,hsz⟩
 have fz:=fun i=>H1.out.blk.frozen i
 obtain⟨a21,a22,a23,a24,a25,a26,a27,a28,a29,a30,a31,a32,a33,a34⟩:= zct H1.out.blk
 unfold msV at a21 a22 a23 a24 a25 a26 a27 a28 a29 a30 a31 a32 a33 a34
 unfold msV at HX fz z1
 simp only[World.setCells,Nat.reduceAdd] at HX
 have hn0:n=0:=by rw[hnm,hz];rfl
 subst hn0
 have HS:=zak (fun W ks h=>zfu (w0:=w0) (G:=G) (p:=p) (m:=m) (ks:=ks) (rs:=rs) (cExp S (⟨14,ix,sub,tg,la,cr,sz,size,code,data,sq,bl,em,sum⟩:Ms)) { R with E:=(⟨14,ix,sub,tg,la,cr,sz,size,code,data,sq,bl,em,sum⟩:Ms),Ae:=A,ne:=0,ce:=c } W h ⟨by have:=hw.1;simp only[cExp];omega,hw.2⟩ HEX.out hb hn2 hd)
 clear hw hE hb hn2 hd hl hM hsz hMl hz hnm hks
 clear hP h
 unfold msV at H1 q ⊢
 obtain⟨q_c0,q_c1,q_c2,q_c3,q_c4,q_c5,q_c6,q_c7,q_c8,q_c9,q_c10,q_c11,q_c12,q_c13⟩:= zbs q
 have q_f:=q.frozen
 clear q
 go_enter Try.func38,Try.ntmps38
 go_wp2_with fail
 refine (HS.out _ _ HX.out).mono ?_
 rw[← HP.out]
 rintro e W2 hR
 obtain⟨As,ns,cs,rfl⟩:∃ As ns cs,e= .returned (.slice As ns cs):= by
  rw[HP.out] at hR
  exact hR.shape
 have HR:=zak hR
 clear hR
 go_wp2_with fail
 exact HR.out
theorem zg9 (S:CliS) (R:CR) (M:Ms) (A:Option Addr) (n c:Nat) (W:World) (h:CM w0 G p m S.wk (cliL S m R) ks rs W) (hw:1≤S.wk∧S.wk≤21) (hE:EOk S R) (hb:⟨R.A,R.n,R.c,S.b⟩ ∈ rs) (hn2:R.n2=S.data.length) (hd:S.data= []) (hl:S.b.length≤100000) (hM:⟨A,n,c,M.data⟩ ∈ rs) (hsz:M.size≤4294967295) (hMl:M.data.length≤7) (hz:M.data≠ []) (hk:M.kind=14) :
 Calls Try.prog 38 #[.pointer (some ⟨p,0,none⟩),.agg (msV M A n c)] W (zf4 w0 G p m (cStepS S M) (cStepL S M)):= by
 obtain⟨k,ix,sub,tg,la,cr,sz,size,code,data,sq,bl,em,sum⟩:= M
 obtain rfl:k=14:=hk
 dsimp only at *
 have hnm:n=data.length:=(h.rows _ hM).1.hn
 have hks:True:=trivial
 have H1:Hid (CM w0 G p m S.wk (cliL S m R) ks rs (W.alloc (.cells (msV (⟨14,ix,sub,tg,la,cr,sz,size,code,data,sq,bl,em,sum⟩:Ms) A n c) 63))):= zak (h.alloc _)
 have q:=zbu W 63 (msV (⟨14,ix,sub,tg,la,cr,sz,size,code,data,sq,bl,em,sum⟩:Ms) A n c)
 have HW:=zak hw
 have HE:=zak hE
 have HBB:=zak hb
 have HN2:=zak hn2
 have HD:=zak hd
 obtain⟨P,hP⟩:∃ P,P=zf4 w0 G p m (cStepS S (⟨14,ix,sub,tg,la,cr,sz,size,code,data,sq,bl,em,sum⟩:Ms)) (cStepL S (⟨14,ix,sub,tg,la,cr,sz,size,code,data,sq,bl,em,sum⟩:Ms)):= ⟨_,rfl⟩
 have HP:Hid (P=zf4 w0 G p m (cEnd (cExp S (⟨14,ix,sub,tg,la,cr,sz,size,code,data,sq,bl,em,sum⟩:Ms)) 0 data) []):= zak (by
  rw[hP]
  show zf4 w0 G p m (if data≠ [] then _ else _) (if data≠ [] then _ else _)=_
  rw[if_pos hz,if_pos hz]
  )
 rw[← hP]
 have z1:=H1.out.lt
 have HK2:=zak hks
 have HX:Hid (CM w0 G p m S.wk (cliL (cExp S (⟨14,ix,sub,tg,la,cr,sz,size,code,data,sq,bl,em,sum⟩:Ms)) m { R with E:=(⟨14,ix,sub,tg,la,cr,sz,size,code,data,sq,bl,em,sum⟩:Ms),Ae:=A,ne:=n,ce:=c }) (⟨W.heap.size,63,[.int .i64 14,.int .i64 ix,.int .i64 sub,.bool tg,.bool la,.bool cr,.bool sz,.int .u32 (size:Nat),.int .u32 (code:Nat),.slice A n c,.int .i64 sq,.int .i64 bl,.int .i64 em,.int .u16 (sum:Nat)]⟩ :: ks) rs ((W.alloc (.cells (msV (⟨14,ix,sub,tg,la,cr,sz,size,code,data,sq,bl,em,sum⟩:Ms) A n c) 63)).setCells p 21 [.int .i64 14,.int .i64 ix,.int .i64 sub,.bool tg,.bool la,.bool cr,.bool sz,.int .u32 (size:Nat),.int .u32 (code:Nat),.slice A n c,.int .i64 sq,.int .i64 bl,.int .i64 em,.int .u16 (sum:Nat)])):= zak ((h.new 63 [.int .i64 14,.int .i64 ix,.int .i64 sub,.bool tg,.bool la,.bool cr,.bool sz,.int .u32 (size:Nat),.int .u32 (code:Nat),.slice A n c,.int .i64 sq,.int .i64 bl,.int .i64 em,.int .u16 (sum:Nat)] (by decide)).sets [.int .i64 14,.int .i64 ix,.int .i64 sub,.bool tg,.bool la,.bool cr,.bool sz,.int .u32 (size:Nat),.int .u32 (code:Nat),.slice A n c,.int .i64 sq,.int .i64 bl,.int .i64 em,.int .u16 (sum:Nat)] 21 (by simp[cliL]))
 have HEX:Hid (EOk (cExp S (⟨14,ix,sub,tg,la,cr,sz,size,code,data,sq,bl,em,sum⟩:Ms)) { R with E:=(⟨14,ix,sub,tg,la,cr,sz,size,code,data,sq,bl,em,sum⟩:Ms),Ae:=A,ne:=n,ce:=c }):= zak ⟨rfl,rfl,rfl,hsz⟩
 have fz:=fun i=>H1.out.blk.frozen i
 obtain⟨a21,a22,a23,a24,a25,a26,a27,a28,a29,a30,a31,a32,a33,a34⟩:= zct H1.out.blk
 unfold msV at a21 a22 a23 a24 a25 a26 a27 a28 a29 a30 a31 a32 a33 a34
 unfold msV at HX fz z1
 simp only[World.setCells,Nat.reduceAdd] at HX
 have hn1:0 < n:=by rw[hnm];exact List.length_pos_iff.2 hz
 have HNM:=zak hnm
 have HMM:=zak hM
 have hn7:n≤7:=by omega
 clear hw hE hb hn2 hd hl hM hsz hMl hz hnm hks
 clear hP h
 unfold msV at H1 q ⊢
 obtain⟨q_c0,q_c1,q_c2,q_c3,q_c4,q_c5,q_c6,q_c7,q_c8,q_c9,q_c10,q_c11,q_c12,q_c13⟩:= zbs q
 have q_f:=q.frozen
 clear q
 go_enter Try.func38,Try.ntmps38
 go_wp2_with fail
 refine (zc1 0 A n c data _ HX.out rfl rfl ⟨by have:=HW.out.1;omega,HW.out.2⟩ HNM.out (by omega) (fun W' h'=>(h'.rows _ HMM.out).1.sl)).mono ?_
 rintro e W2 ⟨rfl,A',c',h2⟩
 have HF:=zak (zfq (S:=cEnd (cExp S (⟨14,ix,sub,tg,la,cr,sz,size,code,data,sq,bl,em,sum⟩:Ms)) 0 data) (R:={ R with E:=(⟨14,ix,sub,tg,la,cr,sz,size,code,data,sq,bl,em,sum⟩:Ms),Ae:=A,ne:=n,ce:=c,A2:=A',n2:=n,c2:=c' }) h2 HEX.out (fun h=>absurd rfl h) HNM.out (fun _=>List.mem_cons_self))
 clear h2
 go_wp2_with fail
 rw[HP.out]
 exact HF.out
theorem zha (S:CliS) (R:CR) (M:Ms) (A:Option Addr) (n c:Nat) (W:World) (h:CM w0 G p m S.wk (cliL S m R) ks rs W) (hw:1≤S.wk∧S.wk≤21) (hE:EOk S R) (hb:⟨R.A,R.n,R.c,S.b⟩ ∈ rs) (hn2:R.n2=S.data.length) (hd:S.data= []) (hl:S.b.length≤100000) (hM:⟨A,n,c,M.data⟩ ∈ rs) (hsz:M.size≤4294967295) (hk:M.kind=19) :
 Calls Try.prog 38 #[.pointer (some ⟨p,0,none⟩),.agg (msV M A n c)] W (zf4 w0 G p m (cStepS S M) (cStepL S M)):= by
 obtain⟨k,ix,sub,tg,la,cr,sz,size,code,data,sq,bl,em,sum⟩:= M
 obtain rfl:k=19:=hk
 dsimp only at *
 have hks:True:=trivial
 have H1:Hid (CM w0 G p m S.wk (cliL S m R) ks rs (W.alloc (.cells (msV (⟨19,ix,sub,tg,la,cr,sz,size,code,data,sq,bl,em,sum⟩:Ms) A n c) 63))):= zak (h.alloc _)
 have q:=zbu W 63 (msV (⟨19,ix,sub,tg,la,cr,sz,size,code,data,sq,bl,em,sum⟩:Ms) A n c)
 have HW:=zak hw
 have HE:=zak hE
 have HBB:=zak hb
 have HN2:=zak hn2
 have HD:=zak hd
 obtain⟨P,hP⟩:∃ P,P=zf4 w0 G p m (cStepS S (⟨19,ix,sub,tg,la,cr,sz,size,code,data,sq,bl,em,sum⟩:Ms)) (cStepL S (⟨19,ix,sub,tg,la,cr,sz,size,code,data,sq,bl,em,sum⟩:Ms)):= ⟨_,rfl⟩
 have HP:Hid (P=zf4 w0 G p m { cExp S (⟨19,ix,sub,tg,la,cr,sz,size,code,data,sq,bl,em,sum⟩:Ms) with wk:=21 } (cSend S [busM])):= zak (by rw[hP];rfl)
 rw[← hP]
 have z1:=H1.out.lt
 have HK2:=zak hks
 have HX:Hid (CM w0 G p m S.wk (cliL (cExp S (⟨19,ix,sub,tg,la,cr,sz,size,code,data,sq,bl,em,sum⟩:Ms)) m { R with E:=(⟨19,ix,sub,tg,la,cr,sz,size,code,data,sq,bl,em,sum⟩:Ms),Ae:=A,ne:=n,ce:=c }) (⟨W.heap.size,63,[.int .i64 19,.int .i64 ix,.int .i64 sub,.bool tg,.bool la,.bool cr,.bool sz,.int .u32 (size:Nat),.int .u32 (code:Nat),.slice A n c,.int .i64 sq,.int .i64 bl,.int .i64 em,.int .u16 (sum:Nat)]⟩ :: ks) rs ((W.alloc (.cells (msV (⟨19,ix,sub,tg,la,cr,sz,size,code,data,sq,bl,em,sum⟩:Ms) A n c) 63)).setCells p 21 [.int .i64 19,.int .i64 ix,.int .i64 sub,.bool tg,.bool la,.bool cr,.bool sz,.int .u32 (size:Nat),.int .u32 (code:Nat),.slice A n c,.int .i64 sq,.int .i64 bl,.int .i64 em,.int .u16 (sum:Nat)])):= zak ((h.new 63 [.int .i64 19,.int .i64 ix,.int .i64 sub,.bool tg,.bool la,.bool cr,.bool sz,.int .u32 (size:Nat),.int .u32 (code:Nat),.slice A n c,.int .i64 sq,.int .i64 bl,.int .i64 em,.int .u16 (sum:Nat)] (by decide)).sets [.int .i64 19,.int .i64 ix,.int .i64 sub,.bool tg,.bool la,.bool cr,.bool sz,.int .u32 (size:Nat),.int .u32 (code:Nat),.slice A n c,.int .i64 sq,.int .i64 bl,.int .i64 em,.int .u16 (sum:Nat)] 21 (by simp[cliL]))
 have HEX:Hid (EOk (cExp S (⟨19,ix,sub,tg,la,cr,sz,size,code,data,sq,bl,em,sum⟩:Ms)) { R with E:=(⟨19,ix,sub,tg,la,cr,sz,size,code,data,sq,bl,em,sum⟩:Ms),Ae:=A,ne:=n,ce:=c }):= zak ⟨rfl,rfl,rfl,hsz⟩
 have fz:=fun i=>H1.out.blk.frozen i
 obtain⟨a21,a22,a23,a24,a25,a26,a27,a28,a29,a30,a31,a32,a33,a34⟩:= zct H1.out.blk
 unfold msV at a21 a22 a23 a24 a25 a26 a27 a28 a29 a30 a31 a32 a33 a34
 unfold msV at HX fz z1
 simp only[World.setCells,Nat.reduceAdd] at HX
 clear hw hE hb hn2 hd hl hM hsz hks
 clear hP h
 unfold msV at H1 q ⊢
 obtain⟨q_c0,q_c1,q_c2,q_c3,q_c4,q_c5,q_c6,q_c7,q_c8,q_c9,q_c10,q_c11,q_c12,q_c13⟩:= zbs q
 have q_f:=q.frozen
 clear q
 go_enter Try.func38,Try.ntmps38
 go_wp2_with fail
 refine (zcw 21 _ HX.out rfl ⟨by have:=HW.out.1;omega,HW.out.2⟩ ⟨by omega,by omega⟩).mono ?_
 rintro e W2 ⟨rfl,h2⟩
 have H2:Hid (CM w0 G p m 21 (cliL { cExp S (⟨19,ix,sub,tg,la,cr,sz,size,code,data,sq,bl,em,sum⟩:Ms) with wk:=21 } m { R with E:=(⟨19,ix,sub,tg,la,cr,sz,size,code,data,sq,bl,em,sum⟩:Ms),Ae:=A,ne:=n,ce:=c }) (⟨W.heap.size,63,[.int .i64 19,.int .i64 ix,.int .i64 sub,.bool tg,.bool la,.bool cr,.bool sz,.int .u32 (size:Nat),.int .u32 (code:Nat),.slice A n c,.int .i64 sq,.int .i64 bl,.int .i64 em,.int .u16 (sum:Nat)]⟩ :: ks) rs W2):= zak h2
 have z2:=h2.lt
 clear h2 HX
 go_upto_region 22 with fail
 have HD9:=zak (H2.out.alloc (.cells (msV busM none 0 0) 63))
 have HB9:=zak (zbu W2 63 (msV busM none 0 0))
 unfold msV busM at HD9 HB9
 go_wp2_with fail
 refine (zfj p (1536+S.nd) [busM] _ 1 1 _ (HD9.out.blk.cell 1 rfl) rfl (zff (M:=busM) HB9.out rfl (Sl.nil _ _)) (by intro M hM;simp at hM;subst hM;exact⟨Nat.zero_le _,Nat.zero_le _,Nat.zero_le _⟩) (by omega)).mono ?_
 rintro e w6 ⟨As,ns,cs,ds,rfl,hO,hb⟩
 have HF:=zak (zfp (S:={ cExp S (⟨19,ix,sub,tg,la,cr,sz,size,code,data,sq,bl,em,sum⟩:Ms) with wk:=21 }) (R:={ R with E:=(⟨19,ix,sub,tg,la,cr,sz,size,code,data,sq,bl,em,sum⟩:Ms),Ae:=A,ne:=n,ce:=c }) (L:= [busM]) HD9.out HEX.out (fun _=>HBB.out) HN2.out (fun h=>absurd HD.out h) ⟨As,ns,cs,ds,rfl,hO,hb⟩)
 clear hO
 go_wp2_with fail
 rw[HP.out]
 exact HF.out
end
structure MsB (M:Ms):Prop where
 k:12≤M.kind∧M.kind≤21
 dl:M.data.length≤7
 em:0≤M.em∧M.em≤7
 sum:M.sum≤65535
 bl:0≤M.bl∧M.bl≤1000
 sq:0≤M.sq∧M.sq≤1000
 size:M.size≤4294967295
structure ClB (S:CliS):Prop where
 wk:1≤S.wk∧S.wk≤21
 dz:S.data= []
 bl:S.b.length≤100000
 at_:0≤S.at_∧S.at_≤1000000
 ro:0≤S.ro∧S.ro≤1000
theorem zhb (w:World) (G:Nat→Prop) (p m:Nat) (S:CliS) (M:Ms) (hS:ClB S) (hB:MsB M):StepC w G p m S M:=by
 intro W R ks rs A n c h hE hb hn2 hM
 have hw0:0≤S.wk∧S.wk≤21:=⟨by have:=hS.wk.1;omega,hS.wk.2⟩
 have hk:M.kind=12∨M.kind=13∨M.kind=14∨M.kind=15∨M.kind=16∨M.kind=17∨M.kind=18∨M.kind=19∨M.kind=20∨M.kind=21:=by have:=hB.k;omega
 rcases hk with hk | hk | hk | hk | hk | hk | hk | hk | hk | hk
 · exact zf2 S R M A n c W h hw0 hE hb hn2 hS.dz hS.bl hS.at_.1 hk
 · exact zgy S R M A n c W h hS.wk hE hb hn2 hS.dz hS.bl hM hS.at_.1 hk
 · by_cases hz:M.data= []
   · exact zg8 S R M A n c W h hS.wk hE hb hn2 hS.dz hS.bl hM hB.size hB.dl hz hk
   · exact zg9 S R M A n c W h hS.wk hE hb hn2 hS.dz hS.bl hM hB.size hB.dl hz hk
 · exact zgz S R M A n c W h hS.wk hE hb hn2 hS.dz hS.bl hM hB.dl hk
 · exact zg4 S R M A n c W h hS.wk hE hb hn2 hS.dz hS.bl hM hS.at_.1 hB.bl hk
 · exact zg6 S R M A n c W h hS.wk hE hb hn2 hS.dz hS.bl hM hS.at_.1 hB.bl hB.sq hS.at_.2 hk
 · exact zg7 S R M A n c W h hS.wk hE hb hn2 hS.dz hS.bl hM hk
 · exact zha S R M A n c W h hS.wk hE hb hn2 hS.dz hS.bl hM hB.size hk
 · exact zg0 S R M A n c W h hS.wk hE hb hn2 hS.dz hS.bl hM hB.em hB.sum hk
 · exact zg1 S R M A n c W h hS.wk hE hb hn2 hS.dz hS.bl hM hB.dl hS.ro hk
end
end Go.Proofs.Ythdbckbpldlkeaa
