/- None -/
import Derived.Test.YthdbckbpldlkeaaQ16
import Derived.Laws.BitsAllLaws
namespace Go.Proofs.Ythdbckbpldlkeaa
set_option linter.unusedVariables false
set_option linter.unusedSimpArgs false
set_option linter.unnecessarySimpa false
section
open Go.RowKit Go.Maps
set_option maxRecDepth 100000
set_option maxHeartbeats 8000000
theorem zf9 {o:Oper} {a:Act} {K:Act→World→Prop} {Q:Exit→Act→World→Prop} {w:World} (s x:Operand) (ho:o.op= .call { callee:= .builtin .append,args:= #[s,x],argTypes:= #[32,32] })
 (A:Option Addr) (n c:Nat) (l:List UInt8) (hs:a.eval s= .slice A n c) (hown:zb7 w 0 A n c l)
 (A2:Option Addr) (m c2:Nat) (l2:List UInt8) (hx:a.eval x= .slice A2 m c2) (hm:m=l2.length) (hr:Sl w A2 (l2.map bv)) (hb:n+m≤140737488355328) (N:Nat) (hN:n+m=N)
 (h:∀ A' c' w',zb7 w' 0 A' N c' (l ++ l2)→ w.grownBy w' (Value.ownBlock (.slice A n c))→ (A'=A∨A'=some ⟨w.heap.size,0,none⟩)→ K (a.put o.dst (.slice A' N c')) w'):Oper.wp Try.prog o a w K Q:=by
 subst hN
 obtain⟨i0,hi0,hz0,hz1,hz2⟩:= info_parts zb5
 obtain⟨A',c',w',hr',h2,h3,h4⟩:= zbf (P:=Try.prog) w 0 32 o.type 5 i0 _ 1 1 Try.underlying32 hi0 hz0 hz1 hz2 rfl (by omega) A n c _ hown.own A2 m c2 (l2.map bv) (by simp[hm]) hr (zbj _) (by unfold maxLen;omega) (by omega) (Nat.zero_le _)
 unfold Oper.wp execOp
 simp only[ho,resolve,invoke,builtin,Sem.run_bind,Sem.run_pure,Result.andThen_ok,List.map_toArray,List.map_cons,List.map_nil,hs,hx,hr']
 exact h A' c' w' ⟨by rw[hown.hn,hm];simp,by rw[List.map_append];exact h2⟩ h3 h4
theorem zgb {w:World} {B e s n c g:Nat} {A:Option Addr} {xs:List Value} (h:Own w B e s A n c xs) (hg:Value.ownBlock (.slice A n c)=some g):A=some ⟨g,0,none⟩:= by
 rcases h.shape with ⟨rfl,_⟩ | ⟨q,rfl,_⟩
 · simp[Value.ownBlock] at hg
 · simp[Value.ownBlock] at hg
   subst hg
   rfl
section
variable {w0 W W':World} {G:Nat→Prop} {p m:Nat} {wk:Int} {cs:List Value} {ks:List KB} {rs:List RB} {A A':Option Addr} {n c N c':Nat} {l l':List UInt8}
theorem CM.app (h:CM w0 G p m wk cs ks (⟨A,n,c,l⟩ :: rs) W) (hO:zb7 W' 0 A' N c' l') (hg:W.grownBy W' (Value.ownBlock (.slice A n c))) (hA:A'=A∨A'=some ⟨W.heap.size,0,none⟩):CM w0 G p m wk cs ks [⟨A',N,c',l'⟩] W':=by
 have hr:=h.rows ⟨A,n,c,l⟩ (by simp)
 have ho:zcd (fun q=>A=some ⟨q,0,none⟩) W W':=zcd.of_grown hg (fun g e=>zgb hr.1.own e)
 refine⟨(ho.block p h.lt (fun e=>zcu hr.1 h.blk zcv p e rfl)).trans h.blk,h.wm.keep (ho.block m h.wm.lt (fun e=>h.wm.row_ne hr.1.own m e rfl)),h.only.trans ho ?_,fun x hx=>⟨(h.keep x hx).1,(h.keep x hx).2.1,(ho.block x.g (h.keep x hx).2.2.lt (fun e=>zcu hr.1 (h.keep x hx).2.2 (h.keep x hx).2.1 x.g e rfl)).trans (h.keep x hx).2.2⟩,?_⟩
 · intro i hi e
   rcases hr.2 i e with h1 | h1
   · exact .inr (.inr h1)
   · omega
 · intro r hr2
   simp at hr2
   subst hr2
   refine⟨hO,fun g hg2=>?_⟩
   rcases hA with hA | hA
   · exact hr.2 g (hA ▸ hg2)
   · rw[hA] at hg2
     injection hg2 with hg2
     injection hg2 with hg2
     exact .inr (by rw[← hg2];exact h.size)
end
section
variable {w0:World} {G:Nat→Prop} {p m:Nat} {ks:List KB}
theorem zgc (S:CliS) (R:CR) (M:Ms) (A:Option Addr) (n c:Nat) (W:World) (rs:List RB) (h:CM w0 G p m S.wk (cliL S m R) ks rs W) (hw:0≤S.wk∧S.wk≤21) (hE:EOk S R) (hb:⟨R.A,R.n,R.c,S.b⟩ ∈ rs) (hn2:R.n2=S.data.length) (hd:S.data= []) (hl:S.b.length≤100000) (hM:⟨A,n,c,M.data⟩ ∈ rs) (hMl:M.data.length≤7) :
 Calls Try.prog 57 #[.pointer (some ⟨p,0,none⟩),.agg (msV M A n c)] W (zf4 w0 G p m (cPcS S M) (cPcL S M)):= by
 have hnm:n=M.data.length:=(h.rows _ hM).1.hn
 have hnr:R.n=S.b.length:=(h.rows _ hb).1.hn
 have H1:Hid (CM w0 G p m S.wk (cliL S m R) (⟨W.heap.size,63,(msV M A n c).toList⟩ :: ks) (⟨R.A,R.n,R.c,S.b⟩ :: ⟨A,n,c,M.data⟩ :: []) (W.alloc (.cells (msV M A n c) 63))):= zak (((h.new _ _ (by decide)).subr (by
  intro r hr
  simp at hr
  rcases hr with rfl | rfl
  · exact hb
  · exact hM)))
 have HE:=zak hE
 have HW:=zak hw
 have HN2:=zak hn2
 have HD:=zak hd
 obtain⟨P,hP⟩:∃ P,P=zf4 w0 G p m (cPcS S M) (cPcL S M):= ⟨_,rfl⟩
 have HP:=zak hP
 rw[← hP]
 have hbd:R.n+n≤200000:=by omega
 have HNM:=zak hnm
 have HNR:=zak hnr
 clear h hE hw hn2 hd hb hM hP hnm hnr hl hMl
 unfold msV at H1 ⊢
 go_enter Try.func57,Try.ntmps57
 go_upto_region 1 with fail
 refine zcn (P:=fun W1=>CM w0 G p m S.wk (cliL S m R) (⟨W.heap.size,63,(msV M A n c).toList⟩ :: ks) (⟨R.A,R.n,R.c,S.b⟩ :: ⟨A,n,c,M.data⟩ :: []) W1) (by exact H1.out) (fun W1 h1=>?_)
 obtain⟨g,hg⟩:∃ g,g=W.heap.size:=⟨_,rfl⟩
 rw[← hg] at h1 ⊢
 clear H1 hg
 have H1:=zak h1
 have z1:=h1.lt
 have q:Blk W1 g 63 (msV M A n c):= h1.k0
 have zg:=q.lt
 have q9:W1.cell? ⟨g,9,none⟩=some (.slice A n c):= q.cell 9 rfl
 have c17:W1.cell? ⟨p,17,none⟩=some (.slice R.A R.n R.c):= h1.blk.cell 17 rfl
 have HMS:=zak (h1.drew.rows ⟨A,n,c,M.data⟩ (by simp)).1.sl
 clear h1 q
 refine zaj (fun w'=>w'.cell? ⟨g,9,none⟩=some (.slice A n c)∧ w'.cell? ⟨p,17,none⟩=some (.slice R.A R.n R.c)) [0,1,2,3,4,5,6,7,8,9] (by kernel_rfl) ?hS1 (fun hHeld=>?rest1)
 case hS1=>((try dsimp only);exact⟨q9,c17⟩)
 case' rest1=>skip
 refine tkT 0 ?_
 try simp only[PqL,Act.put]
 refine tkT 1 ?_
 try simp only[PqL,Act.put]
 refine tkT 2 ?_
 try simp only[PqL,Act.put]
 refine tkT 3 ?_
 try simp only[PqL,Act.put]
 refine tkT 4 ?_
 try simp only[PqL,Act.put]
 refine tkT 5 ?_
 try simp only[PqL,Act.put]
 refine tkT 6 ?_
 try simp only[PqL,Act.put]
 refine zag (i:=7) (o:=_) rfl (by kernel_rfl) (fun K hK=>?_)
 rw[if_pos (show Region.wanted _ _=true by kernel_rfl)]
 refine zf9 _ _ rfl R.A R.n R.c S.b rfl H1.out.drew.r0 A n c M.data rfl HNM.out HMS.out (by omega) (R.n+n) rfl ?_
 intro A6 c6 w6 h3 h4 h5
 have H6:=zak (H1.out.drew.app h3 h4 h5)
 have q6:Blk w6 g 63 (msV M A n c):= H6.out.k0
 have Q6:=zak q6
 have c17b:w6.cell? ⟨p,17,none⟩=some (.slice R.A R.n R.c):= H6.out.blk.cell 17 rfl
 have f17:=H6.out.blk.frozen 17
 have z6:=H6.out.lt
 clear h3 h4 h5 q6
 refine hK.out _ _ ?hS10 (fun hHeld=>?rest10)
 case hS10=>((try dsimp only);(exact⟨Q6.out.cell 9 rfl,c17b⟩))
 case' rest10=>(clear hK K;try simp only[PqL,Act.put])
 refine tkT 8 ?_
 try simp only[PqL,Act.put]
 refine tkT 9 ?_
 try simp only[PqL,Act.put]
 refine zah (i:=10) (o:=_) rfl (by kernel_rfl) (by kernel_rfl) (fun K hK=>?_)
 go_simp
 refine hK.out _ _ ?rest14
 case' rest14=>(clear hK K;try simp only[PqL,Act.put])
 refine zai (by kernel_rfl) ?_ _
 repeat (clear hHeld)
 have H7:Hid (CM w0 G p m S.wk (cliL S m { R with A:=A6,n:=R.n+n,c:=c6 }) (⟨g,63,(msV M A n c).toList⟩ :: ks) [⟨A6,R.n+n,c6,S.b ++ M.data⟩] (w6.setCell ⟨p,17,none⟩ (.slice A6 (R.n+n) c6))):= zak (H6.out.set 17 _)
 clear H6 Q6 c17b f17 z6 c17 q9 z1 zg H1 HMS
 go_upto_region 2 with fail
 refine zcn (P:=CM w0 G p m S.wk (cliL S m { R with A:=A6,n:=R.n+n,c:=c6 }) (⟨g,63,(msV M A n c).toList⟩ :: ks) [⟨A6,R.n+n,c6,S.b ++ M.data⟩]) H7.out (fun W7 h7=>?_)
 clear H7
 have H7:Hid (CM w0 G p m S.wk (cliL (cPcA S M) m { R with A:=A6,n:=R.n+n,c:=c6 }) (⟨g,63,(msV M A n c).toList⟩ :: ks) [⟨A6,R.n+n,c6,S.b ++ M.data⟩] (W7.setCell ⟨p,20,none⟩ (.bool (!S.tg)))):= zak (h7.set 20 _)
 have z7:=h7.lt
 have c20:W7.cell? ⟨p,20,none⟩=some (.bool S.tg):= h7.blk.cell 20 rfl
 have f20:=h7.blk.frozen 20
 have hne:g≠p:=(h7.keep ⟨g,63,(msV M A n c).toList⟩ (by simp)).1
 clear h7
 go_upto_region 3 with fail
 refine zcn (P:=CM w0 G p m S.wk (cliL (cPcA S M) m { R with A:=A6,n:=R.n+n,c:=c6 }) (⟨g,63,(msV M A n c).toList⟩ :: ks) [⟨A6,R.n+n,c6,S.b ++ M.data⟩]) H7.out (fun W8 h8=>?_)
 clear H7 z7 c20 f20
 have H8:=zak h8
 have z8:=h8.lt
 have q:Blk W8 g 63 (msV M A n c):= h8.k0
 have zg:=q.lt
 have HEA:Hid (EOk (cPcA S M) { R with A:=A6,n:=R.n+n,c:=c6 }):= zak HE.out
 have HNB:Hid (R.n+n=(S.b ++ M.data).length):= zak (by rw[List.length_append,← HNR.out,← HNM.out])
 have c17:W8.cell? ⟨p,17,none⟩=some (.slice A6 (R.n+n) c6):= h8.blk.cell 17 rfl
 cases hla:M.la
 · have q4:W8.cell? ⟨g,4,none⟩=some (.bool false):= by rw[← hla];exact q.cell 4 rfl
   have HP2:Hid (P=zf4 w0 G p m (cMoreS (cPcA S M)) (cMoreL (cPcA S M))):= zak (by rw[HP.out];unfold cPcS cPcL;rw[if_pos hla,if_pos hla])
   clear h8 q hla HP
   go_wp2_with fail
   refine (zfu (cPcA S M) _ _ H8.out HW.out HEA.out (by simp[cPcA]) HN2.out HD.out).mono ?_
   rintro e W9 hR
   obtain⟨As,ns,cs,rfl⟩:= hR.shape
   have HR:=zak hR
   clear hR
   go_wp2_with fail
   rw[HP2.out]
   exact HR.out
 · have q4:W8.cell? ⟨g,4,none⟩=some (.bool true):= by rw[← hla];exact q.cell 4 rfl
   have HP2:Hid (P=zf4 w0 G p m (if cSzB S ((S.b ++ M.data).length:Int)=false then cEnd (cPcA S M) 101122064 [] else cEnd (cPcA S M) 0 (S.b ++ M.data)) (if cSzB S ((S.b ++ M.data).length:Int)=false then cFailL S 101122064 else [])):= zak (by
    have hnl: ¬ M.la=false:=by rw[hla];decide
    rw[HP.out];unfold cPcS cPcL;rw[if_neg hnl,if_neg hnl])
   clear h8 q hla HP
   go_wp2_with fail
   refine (zfv (cPcA S M) _ ((R.n+n:Nat):Int) _ H8.out HEA.out).mono ?_
   rintro e W9 ⟨rfl,hw9⟩
   subst hw9
   have hsz:cSzB (cPcA S M) ((R.n+n:Nat):Int)=cSzB S ((S.b ++ M.data).length:Int):= by rw[HNB.out];rfl
   rw[hsz]
   cases hs:cSzB S ((S.b ++ M.data).length:Int)
   · have HSZ:=zak hs
     clear hs hsz
     go_wp2_with fail
     refine (zfs (cPcA S M) _ 101122064 _ H8.out HW.out HEA.out (by omega)).mono ?_
     rintro e W10 hR
     obtain⟨As,ns,cs,rfl⟩:= hR.shape
     have HR:=zak hR
     clear hR
     go_wp2_with fail
     rw[HP2.out,if_pos HSZ.out,if_pos HSZ.out]
     exact HR.out
   · have HSZ:=zak hs
     clear hs hsz
     go_wp2_with fail
     refine (zc1 0 A6 (R.n+n) c6 (S.b ++ M.data) _ H8.out rfl rfl HW.out HNB.out (by omega) (fun W' hc=>hc.r0.sl)).mono ?_
     rintro e W10 ⟨rfl,A9,c9,h9⟩
     have HF:=zak (zfq (S:=cEnd (cPcA S M) 0 (S.b ++ M.data)) (R:={ R with A:=A6,n:=R.n+n,c:=c6,A2:=A9,n2:=R.n+n,c2:=c9 }) h9 HE.out (fun h=>absurd rfl h) HNB.out (fun _=>by simp[cEnd]))
     clear h9
     go_wp2_with fail
     rw[HP2.out,if_neg (by rw[HSZ.out];decide),if_neg (by rw[HSZ.out];decide)]
     exact HF.out
end
end
section
open Go.RowKit Go.Maps
set_option maxRecDepth 100000
set_option maxHeartbeats 8000000
section
variable {w0:World} {G:Nat→Prop} {p m:Nat} {ks:List KB}
def TkW (w0:World) (G:Nat→Prop) (p m:Nat) (ks:List KB) (S:CliS) (n2:Nat) (W:World):Prop:=
 ∃ R:CR,CM w0 G p m S.wk (cliL S m R) ks [⟨R.A,R.n,R.c,S.b⟩] W∧EOk S R∧R.n2=n2
theorem zgd (sq:Int):∀ M ∈ [buaM sq],MsOk M:=by
 intro M hM
 simp at hM
 subst hM
 exact⟨Nat.zero_le _,Nat.zero_le _,Nat.zero_le _⟩
theorem zge (S:CliS) (R:CR) (M:Ms) (A:Option Addr) (n c:Nat) (W:World) (rs:List RB) (h:CM w0 G p m S.wk (cliL S m R) ks rs W) (hw:1≤S.wk∧S.wk≤21) (hE:EOk S R) (hb:⟨R.A,R.n,R.c,S.b⟩ ∈ rs) (hn2:R.n2=S.data.length) (hd:S.data= []) (hl:S.b.length≤100000) (hM:⟨A,n,c,M.data⟩ ∈ rs) (hMl:M.data.length≤7) (hro:0≤S.ro∧S.ro≤1000) :
 Calls Try.prog 59 #[.pointer (some ⟨p,0,none⟩),.agg (msV M A n c)] W (zf4 w0 G p m (cTkS S M) (cTkL S M)):= by
 have hnm:n=M.data.length:=(h.rows _ hM).1.hn
 have hnr:R.n=S.b.length:=(h.rows _ hb).1.hn
 have H1:Hid (CM w0 G p m S.wk (cliL S m R) (⟨W.heap.size,63,(msV M A n c).toList⟩ :: ks) (⟨R.A,R.n,R.c,S.b⟩ :: ⟨A,n,c,M.data⟩ :: []) (W.alloc (.cells (msV M A n c) 63))):= zak (((h.new _ _ (by decide)).subr (by
  intro r hr
  simp at hr
  rcases hr with rfl | rfl
  · exact hb
  · exact hM)))
 have HE:=zak hE
 have HW:=zak hw
 have HN2:=zak hn2
 have HD:=zak hd
 obtain⟨P,hP⟩:∃ P,P=zf4 w0 G p m (cTkS S M) (cTkL S M):= ⟨_,rfl⟩
 have HP:=zak hP
 rw[← hP]
 have hbd:R.n+n≤200000:=by omega
 have HNM:=zak hnm
 have HNR:=zak hnr
 clear h hE hw hn2 hd hb hM hP hnm hnr hl hMl
 unfold msV at H1 ⊢
 go_enter Try.func59,Try.ntmps59
 go_upto_region 1 with fail
 refine zcn (P:=fun W1=>CM w0 G p m S.wk (cliL S m R) (⟨W.heap.size,63,(msV M A n c).toList⟩ :: ks) (⟨R.A,R.n,R.c,S.b⟩ :: ⟨A,n,c,M.data⟩ :: []) W1) (by exact H1.out) (fun W1 h1=>?_)
 obtain⟨g,hg⟩:∃ g,g=W.heap.size:=⟨_,rfl⟩
 rw[← hg] at h1 ⊢
 clear H1 hg
 have H1:=zak h1
 have z1:=h1.lt
 have q:Blk W1 g 63 (msV M A n c):= h1.k0
 have zg:=q.lt
 have q10:W1.cell? ⟨g,10,none⟩=some (.int .i64 M.sq):= q.cell 10 rfl
 have c19:W1.cell? ⟨p,19,none⟩=some (.int .i64 S.ro):= h1.blk.cell 19 rfl
 clear h1 q
 obtain⟨hsb,hhsb⟩:∃ b:Bool,b=(M.sq == S.ro+1):= ⟨_,rfl⟩
 have hsb2:=hhsb.symm
 have HSB:=zak hhsb
 clear hhsb
 go_quiet (fail)
 go_upto_if 13 with fail
 refine zcn (P:=CM w0 G p m S.wk (cliL S m R) (⟨g,63,(msV M A n c).toList⟩ :: ks) (⟨R.A,R.n,R.c,S.b⟩ :: ⟨A,n,c,M.data⟩ :: [])) (H1.out.step (zb2 (Below.refl _ _) _)) (fun W2 h2=>?_)
 clear H1 z1 zg q10 c19 hsb2
 have H1:=zak h2
 have z1:=h2.lt
 have q:Blk W2 g 63 (msV M A n c):= h2.k0
 have zg:=q.lt
 have hgp:g≠p:=(h2.keep ⟨g,63,(msV M A n c).toList⟩ (by simp)).1
 have q9:W2.cell? ⟨g,9,none⟩=some (.slice A n c):= q.cell 9 rfl
 have c17:W2.cell? ⟨p,17,none⟩=some (.slice R.A R.n R.c):= h2.blk.cell 17 rfl
 have HMS:=zak (h2.drew.rows ⟨A,n,c,M.data⟩ (by simp)).1.sl
 have HQ:=zak q
 clear h2 q
 go_cut [14,15,16,17,18,19,20,21,22,23,24,25,26,27,28,29,30,31,32,33,34] (fun _ _ _ _ _ _ _ _ _ _ _ _ _ _ _ _ _ _ _ _ _ wx=>TkW w0 G p m (⟨g,63,(msV M A n c).toList⟩ :: ks) (cTkA S M) R.n2 wx)
 case first=>
  cases hsb
  · have HTA:Hid (cTkA S M=S):= zak (by unfold cTkA;rw[if_neg (by have:=HSB.out;simpa using this.symm)])
    go_wp2_with fail
    go_meet
    exact (by rw[HTA.out];exact⟨R,H1.out.subr (by simp),HE.out,rfl⟩)
  · have HTA:Hid (cTkA S M= { S with b:=S.b ++ M.data,ro:=S.ro+1,wk:=if M.la=true then 20 else S.wk }):= zak (by unfold cTkA;rw[if_pos (by have:=HSB.out;simpa using this.symm)])
    go_upto_region 2 with fail
    refine zaj (fun w'=>w'.cell? ⟨g,9,none⟩=some (.slice A n c)∧ w'.cell? ⟨p,17,none⟩=some (.slice R.A R.n R.c)) [0,1,2,3,4,5,6,7,8,9] (by kernel_rfl) ?hS1 (fun hHeld=>?rest1)
    case hS1=>((try dsimp only);exact⟨q9,c17⟩)
    case' rest1=>skip
    refine tkT 0 ?_
    try simp only[PqL,Act.put]
    refine tkT 1 ?_
    try simp only[PqL,Act.put]
    refine tkT 2 ?_
    try simp only[PqL,Act.put]
    refine tkT 3 ?_
    try simp only[PqL,Act.put]
    refine tkT 4 ?_
    try simp only[PqL,Act.put]
    refine tkT 5 ?_
    try simp only[PqL,Act.put]
    refine tkT 6 ?_
    try simp only[PqL,Act.put]
    refine zag (i:=7) (o:=_) rfl (by kernel_rfl) (fun K hK=>?_)
    rw[if_pos (show Region.wanted _ _=true by kernel_rfl)]
    refine zf9 _ _ rfl R.A R.n R.c S.b rfl H1.out.drew.r0 A n c M.data rfl HNM.out HMS.out (by omega) (R.n+n) rfl ?_
    intro A6 c6 w6 h3 h4 h5
    have H6:=zak (H1.out.drew.app h3 h4 h5)
    have q6:Blk w6 g 63 (msV M A n c):= H6.out.k0
    have Q6:=zak q6
    have c17b:w6.cell? ⟨p,17,none⟩=some (.slice R.A R.n R.c):= H6.out.blk.cell 17 rfl
    have f17:=H6.out.blk.frozen 17
    have z6:=H6.out.lt
    clear h3 h4 h5 q6
    refine hK.out _ _ ?hS10 (fun hHeld=>?rest10)
    case hS10=>((try dsimp only);(exact⟨Q6.out.cell 9 rfl,c17b⟩))
    case' rest10=>(clear hK K;try simp only[PqL,Act.put])
    refine tkT 8 ?_
    try simp only[PqL,Act.put]
    refine tkT 9 ?_
    try simp only[PqL,Act.put]
    refine zah (i:=10) (o:=_) rfl (by kernel_rfl) (by kernel_rfl) (fun K hK=>?_)
    go_simp
    refine hK.out _ _ ?rest14
    case' rest14=>(clear hK K;try simp only[PqL,Act.put])
    refine zai (by kernel_rfl) ?_ _
    repeat (clear hHeld)
    have H7:Hid (CM w0 G p m S.wk (cliL S m { R with A:=A6,n:=R.n+n,c:=c6 }) (⟨g,63,(msV M A n c).toList⟩ :: ks) [⟨A6,R.n+n,c6,S.b ++ M.data⟩] (w6.setCell ⟨p,17,none⟩ (.slice A6 (R.n+n) c6))):= zak (H6.out.set 17 _)
    clear H6 Q6 c17b f17 z6 c17 q9 z1 zg H1 HMS HQ
    go_upto_region 3 with fail
    refine zcn (P:=CM w0 G p m S.wk (cliL S m { R with A:=A6,n:=R.n+n,c:=c6 }) (⟨g,63,(msV M A n c).toList⟩ :: ks) [⟨A6,R.n+n,c6,S.b ++ M.data⟩]) H7.out (fun W7 h7=>?_)
    clear H7
    have H7:Hid (CM w0 G p m S.wk (cliL { S with b:=S.b ++ M.data,ro:=S.ro+1 } m { R with A:=A6,n:=R.n+n,c:=c6 }) (⟨g,63,(msV M A n c).toList⟩ :: ks) [⟨A6,R.n+n,c6,S.b ++ M.data⟩] (W7.setCell ⟨p,19,none⟩ (.int .i64 (S.ro+1)))):= zak (h7.set 19 _)
    have z7:=h7.lt
    have c19:W7.cell? ⟨p,19,none⟩=some (.int .i64 S.ro):= h7.blk.cell 19 rfl
    have f19:=h7.blk.frozen 19
    clear h7
    go_upto_region 4 with fail
    refine zcn (P:=CM w0 G p m S.wk (cliL { S with b:=S.b ++ M.data,ro:=S.ro+1 } m { R with A:=A6,n:=R.n+n,c:=c6 }) (⟨g,63,(msV M A n c).toList⟩ :: ks) [⟨A6,R.n+n,c6,S.b ++ M.data⟩]) H7.out (fun W8 h8=>?_)
    clear H7 z7 c19 f19
    have H8:=zak h8
    have z8:=h8.lt
    have q:Blk W8 g 63 (msV M A n c):= h8.k0
    have zg:=q.lt
    rcases Bool.eq_false_or_eq_true M.la with hla | hla
    · have q4:W8.cell? ⟨g,4,none⟩=some (.bool true):= by rw[← hla];exact q.cell 4 rfl
      have HLA:=zak hla
      clear h8 q hla
      go_wp2_with fail
      refine (zcw 20 _ H8.out rfl ⟨by have:=HW.out.1;omega,HW.out.2⟩ ⟨by omega,by omega⟩).mono ?_
      rintro e W9 ⟨rfl,h9⟩
      have H9:=zak h9
      clear h9
      go_wp2_with fail
      go_meet
      exact (by rw[HTA.out,if_pos HLA.out];exact⟨{ R with A:=A6,n:=R.n+n,c:=c6 },H9.out,HE.out,rfl⟩)
    · have q4:W8.cell? ⟨g,4,none⟩=some (.bool false):= by rw[← hla];exact q.cell 4 rfl
      have HLA:=zak hla
      clear h8 q hla
      go_wp2_with fail
      go_meet
      exact (by rw[HTA.out,if_neg (by rw[HLA.out];decide)];exact⟨{ R with A:=A6,n:=R.n+n,c:=c6 },H8.out,HE.out,rfl⟩)
 case rest=>
  obtain⟨R2,hC,hE2,hnn⟩:= hcut
  obtain⟨S2,hS2⟩:∃ S2,S2=cTkA S M:=⟨_,rfl⟩
  rw[← hS2] at hC hE2
  have HS2:=zak hS2
  have HE2:=zak hE2
  have hw2:0≤S2.wk∧S2.wk≤21:=by
   have:=HW.out
   rw[hS2]
   unfold cTkA
   split
   · dsimp only
     split<;>omega
   · omega
  have hd2:S2.data= []:= by
   rw[hS2]
   unfold cTkA
   split<;>exact HD.out
  have hr2:S2.ro≤1001∧0≤S2.ro:=by
   rw[hS2]
   unfold cTkA
   split
   · dsimp only;omega
   · omega
  have HW2:=zak hw2
  have HD2:=zak hd2
  have HN22:Hid (R2.n2=S2.data.length):= zak (by rw[hnn,HN2.out,HD.out,hd2])
  have HC:=zak hC
  have z2:=hC.lt
  have q2:Blk wc g 63 (msV M A n c):= hC.k0
  have zg2:=q2.lt
  have p4:wc.cell? ⟨g,4,none⟩=some (.bool M.la):= q2.cell 4 rfl
  have p10:wc.cell? ⟨g,10,none⟩=some (.int .i64 M.sq):= q2.cell 10 rfl
  clear hC hE2 hnn hS2 hw2 hd2 q9 c17 HMS HQ zg z1 H1 q2
  by_cases hno:M.sq≠32∧M.la=false
  · obtain⟨hn1,hn3⟩:= hno
    have HF:Hid (zf4 w0 G p m (cTkS S M) (cTkL S M) (.returned (.slice none 0 0)) wc):= zak (by
     have hh:=zfq HC.out HE2.out (fun _=>by simp) HN22.out (fun h=>absurd HD2.out h)
     unfold cTkS cTkL
     rw[if_pos ⟨hn1,hn3⟩,if_pos ⟨hn1,hn3⟩,← HS2.out]
     exact hh)
    have d1:(M.sq != 32)=true:=by simp[hn1]
    rw[hn3] at p4
    have HN3:=zak hn3
    clear hn1 hn3
    go_wp2_with fail
    rw[HP.out]
    exact HF.out
  · have HNO:=zak hno
    clear hno
    obtain⟨P2,hP2⟩:∃ P2,P2=P:=⟨_,rfl⟩
    have HP2:Hid (P=zf4 w0 G p m { S2 with ro:=0 } (cSend S2 [buaM S2.ro])):= zak (by
     rw[HP.out]
     unfold cTkS cTkL
     rw[if_neg HNO.out,if_neg HNO.out,← HS2.out]
     congr 1
     rw[HS2.out]
     unfold cSend cTkA
     split<;>rfl)
    clear hP2
    have c19:wc.cell? ⟨p,19,none⟩=some (.int .i64 S2.ro):= HC.out.blk.cell 19 rfl
    by_cases h32:M.sq=32
    · have d1:(M.sq != 32)=false:=by simp[h32]
      clear h32
      go_upto_region 9 with fail
      refine zcn (P:=CM w0 G p m S2.wk (cliL S2 m R2) (⟨wc.heap.size,63,(msV (buaM S2.ro) none 0 0).toList⟩ :: (⟨g,63,(msV M A n c).toList⟩ :: ks)) [⟨R2.A,R2.n,R2.c,S2.b⟩]) (by exact HC.out.new 63 (msV (buaM S2.ro) none 0 0).toList (by decide)) (fun W3 h3=>?_)
      obtain⟨g5,hg5⟩:∃ g5,g5=wc.heap.size:=⟨_,rfl⟩
      rw[← hg5] at h3 ⊢
      clear hg5 c19 HC z2 zg2 p4 p10
      have H4:Hid (CM w0 G p m S2.wk (cliL { S2 with ro:=0 } m R2) (⟨g5,63,(msV (buaM S2.ro) none 0 0).toList⟩ :: (⟨g,63,(msV M A n c).toList⟩ :: ks)) [⟨R2.A,R2.n,R2.c,S2.b⟩] (W3.setCell ⟨p,19,none⟩ (.int .i64 0))):= zak (h3.set 19 _)
      have z3:=h3.lt
      have c19:W3.cell? ⟨p,19,none⟩=some (.int .i64 S2.ro):= h3.blk.cell 19 rfl
      have f19:=h3.blk.frozen 19
      clear h3
      go_upto_region 10 with fail
      refine zcn (P:=CM w0 G p m S2.wk (cliL { S2 with ro:=0 } m R2) (⟨g5,63,(msV (buaM S2.ro) none 0 0).toList⟩ :: (⟨g,63,(msV M A n c).toList⟩ :: ks)) [⟨R2.A,R2.n,R2.c,S2.b⟩]) H4.out (fun W5 h5=>?_)
      clear H4 z3 c19 f19
      have q5:Blk W5 g5 63 (msV (buaM S2.ro) none 0 0):= h5.k0
      have HD5:=zak (h5.alloc (.cells (msV (buaM S2.ro) none 0 0) 63))
      have HB5:=zak (zbu W5 63 (msV (buaM S2.ro) none 0 0))
      have z5:=h5.lt
      have zg5:=q5.lt
      unfold msV buaM at q5 HD5 HB5
      dsimp only at q5 HD5 HB5
      obtain⟨q5_c0,q5_c1,q5_c2,q5_c3,q5_c4,q5_c5,q5_c6,q5_c7,q5_c8,q5_c9,q5_c10,q5_c11,q5_c12,q5_c13⟩:= zbs q5
      have q5_f:=q5.frozen
      clear h5
      go_wp2_with fail
      refine (zfj p (1536+S2.nd) [buaM S2.ro] _ 1 1 _ (HD5.out.blk.cell 1 rfl) rfl (zff (M:=buaM S2.ro) HB5.out rfl (Sl.nil _ _)) (zgd _) (by omega)).mono ?_
      rintro e w6 ⟨As,ns,cs,ds,rfl,hO,hb⟩
      have HF:=zak (zfp (S:={ S2 with ro:=0 }) (R:=R2) (L:= [buaM S2.ro]) HD5.out HE2.out (fun _=>by simp) HN22.out (fun h=>absurd HD2.out h) ⟨As,ns,cs,ds,rfl,hO,hb⟩)
      clear hO hb
      go_wp2_with fail
      rw[HP2.out]
      exact HF.out
    · have d1:(M.sq != 32)=true:=by simp[h32]
      have hla:M.la=true:=by
       cases hq:M.la
       · exact absurd ⟨h32,hq⟩ HNO.out
       · rfl
      rw[hla] at p4
      have HLA:=zak hla
      clear h32 hla
      go_upto_region 9 with fail
      refine zcn (P:=CM w0 G p m S2.wk (cliL S2 m R2) (⟨wc.heap.size,63,(msV (buaM S2.ro) none 0 0).toList⟩ :: (⟨g,63,(msV M A n c).toList⟩ :: ks)) [⟨R2.A,R2.n,R2.c,S2.b⟩]) (by exact HC.out.new 63 (msV (buaM S2.ro) none 0 0).toList (by decide)) (fun W3 h3=>?_)
      obtain⟨g5,hg5⟩:∃ g5,g5=wc.heap.size:=⟨_,rfl⟩
      rw[← hg5] at h3 ⊢
      clear hg5 c19 HC z2 zg2 p4 p10
      have H4:Hid (CM w0 G p m S2.wk (cliL { S2 with ro:=0 } m R2) (⟨g5,63,(msV (buaM S2.ro) none 0 0).toList⟩ :: (⟨g,63,(msV M A n c).toList⟩ :: ks)) [⟨R2.A,R2.n,R2.c,S2.b⟩] (W3.setCell ⟨p,19,none⟩ (.int .i64 0))):= zak (h3.set 19 _)
      have z3:=h3.lt
      have c19:W3.cell? ⟨p,19,none⟩=some (.int .i64 S2.ro):= h3.blk.cell 19 rfl
      have f19:=h3.blk.frozen 19
      clear h3
      go_upto_region 10 with fail
      refine zcn (P:=CM w0 G p m S2.wk (cliL { S2 with ro:=0 } m R2) (⟨g5,63,(msV (buaM S2.ro) none 0 0).toList⟩ :: (⟨g,63,(msV M A n c).toList⟩ :: ks)) [⟨R2.A,R2.n,R2.c,S2.b⟩]) H4.out (fun W5 h5=>?_)
      clear H4 z3 c19 f19
      have q5:Blk W5 g5 63 (msV (buaM S2.ro) none 0 0):= h5.k0
      have HD5:=zak (h5.alloc (.cells (msV (buaM S2.ro) none 0 0) 63))
      have HB5:=zak (zbu W5 63 (msV (buaM S2.ro) none 0 0))
      have z5:=h5.lt
      have zg5:=q5.lt
      unfold msV buaM at q5 HD5 HB5
      dsimp only at q5 HD5 HB5
      obtain⟨q5_c0,q5_c1,q5_c2,q5_c3,q5_c4,q5_c5,q5_c6,q5_c7,q5_c8,q5_c9,q5_c10,q5_c11,q5_c12,q5_c13⟩:= zbs q5
      have q5_f:=q5.frozen
      clear h5
      go_wp2_with fail
      refine (zfj p (1536+S2.nd) [buaM S2.ro] _ 1 1 _ (HD5.out.blk.cell 1 rfl) rfl (zff (M:=buaM S2.ro) HB5.out rfl (Sl.nil _ _)) (zgd _) (by omega)).mono ?_
      rintro e w6 ⟨As,ns,cs,ds,rfl,hO,hb⟩
      have HF:=zak (zfp (S:={ S2 with ro:=0 }) (R:=R2) (L:= [buaM S2.ro]) HD5.out HE2.out (fun _=>by simp) HN22.out (fun h=>absurd HD2.out h) ⟨As,ns,cs,ds,rfl,hO,hb⟩)
      clear hO hb
      go_wp2_with fail
      rw[HP2.out]
      exact HF.out
end
end
section
open Go.RowKit
set_option maxRecDepth 20000
set_option maxHeartbeats 1000000
theorem zgf (r b:Nat) (hb:b < 2) (hr:U16 r) :
 bits BinOp.xor IntKind.u16 (IntKind.u16.wrap (↑r * 2)) (bits BinOp.and IntKind.u16 4129 (IntKind.u16.wrap (-bits BinOp.xor IntKind.u16 (↑r / 32768) ↑b)))=((c16Bit r b:Nat):Int):= by
 have hr':r < 65536:=hr
 have e2:((r:Int) / 32768)=((r / 32768:Nat):Int):= by omega
 have h2:r / 32768 < 2:=by omega
 have e3:IntKind.u16.wrap ((r:Int) * 2)=((r * 2 % 65536:Nat):Int):= by
  rw[show IntKind.u16.wrap ((r:Int) * 2)=((r:Int) * 2) % 65536 from rfl]
  omega
 have h3:r * 2 % 65536 < 65536:=Nat.mod_lt _ (by decide)
 rw[e2,u16_xor_nat _ _ (by omega) (by omega),e3]
 unfold c16Bit
 generalize r / 32768=q at *
 generalize r * 2 % 65536=m at *
 have:(q=0∨q=1)∧ (b=0∨b=1):= by omega
 rcases this with ⟨rfl | rfl,rfl | rfl⟩
 · rw[if_pos rfl]
   have:bits BinOp.and IntKind.u16 4129 (IntKind.u16.wrap (-((0 ^^^ 0:Nat):Int)))=((0:Nat):Int):= by decide
   rw[this,u16_xor_nat _ _ h3 (by decide),Nat.xor_zero]
 · rw[if_neg (by decide)]
   have:bits BinOp.and IntKind.u16 4129 (IntKind.u16.wrap (-((0 ^^^ 1:Nat):Int)))=((4129:Nat):Int):= by decide
   rw[this,u16_xor_nat _ _ h3 (by decide)]
 · rw[if_neg (by decide)]
   have:bits BinOp.and IntKind.u16 4129 (IntKind.u16.wrap (-((1 ^^^ 0:Nat):Int)))=((4129:Nat):Int):= by decide
   rw[this,u16_xor_nat _ _ h3 (by decide)]
 · rw[if_pos rfl]
   have:bits BinOp.and IntKind.u16 4129 (IntKind.u16.wrap (-((1 ^^^ 1:Nat):Int)))=((0:Nat):Int):= by decide
   rw[this,u16_xor_nat _ _ h3 (by decide),Nat.xor_zero]
theorem zgg (b r g N:Nat) (w0 w:World) (hb:b < 2) (hr:U16 r) (hB:Blk w g 61 #[.int .u16 (r:Nat)]) (hbel:Below N w0 w) (hN:N≤g) :
 Calls Try.prog 102 #[.int .u16 (b:Nat),.pointer (some ⟨g,0,none⟩)] w fun e w'=>e= .returned (.tuple #[])∧ Blk w' g 61 #[.int .u16 (c16Bit r b:Nat)]∧ Below N w0 w':=by
 have c0:=hB.cell 0 rfl
 have f0:=hB.frozen 0
 go_enter Try.func102,Try.ntmps102
 go_wp2_with fail
 go_end0
 rw[zgf r b hb hr]
 exact⟨rfl,hB.set_ 0 _,zbw hbel hN _⟩
theorem zgh (c j:Nat) (hc:c < 256):bits BinOp.and IntKind.u16 ((c:Int) / 2 ^ j) 1=((c / 2 ^ j % 2:Nat):Int):= by
 have e:((c:Int) / 2 ^ j)=((c / 2 ^ j:Nat):Int):= by push_cast;rfl
 have h2:c / 2 ^ j≤c:=Nat.div_le_self _ _
 rw[e,show (1:Int)=((1:Nat):Int) from rfl,u16_and_nat _ 1 (by omega) (by decide),Nat.and_one_is_mod]
theorem zgi (A:Option Addr) (n c r g:Nat) (l:List UInt8) (w0 w:World) (hn:n=l.length) (hl:n≤35184372088832) (hu:U16 r) (hs:Sl w0 A (l.map bv)) (hB:Blk w g 61 #[.int .u16 (r:Nat)]) (hbel:Below w0.heap.size w0 w) (hg:w0.heap.size≤g) :
 Calls Try.prog 101 #[.slice A n c,.func (.func 102) #[] #[.pointer (some ⟨g,0,none⟩)]] w fun e w'=>e= .returned (.tuple #[])∧ Blk w' g 61 #[.int .u16 (c16L r l:Nat)]∧ Below w0.heap.size w0 w':=by
 have HN:=zak hn
 clear hn
 go_enter Try.func101,Try.ntmps101
 go_wp2_with fail
 go_loopw [5,6,9] (fun _ _ i wr=> ∃ k,k≤n∧i= .int .i64 (k:Nat)∧ Blk wr g 61 #[.int .u16 (c16L r (l.take k):Nat)]∧ Below w0.heap.size w0 wr) (fun _ _ i _=>n - (intOf i).toNat)
 case atStart=>exact⟨0,by omega,rfl,hB,hbel⟩
 case round=>
  clear hB hbel
  obtain⟨k,hk,rfl,hB,hbr⟩:= hrel
  by_cases hlt:k < n
  · obtain⟨ad,rfl,hcell⟩:= (hs.below hbr).byte (j:=k) (by have:=HN.out;omega)
    obtain⟨b,hb⟩:∃ b,b=(l[k]'(by have:=HN.out;omega)).toNat:=⟨_,rfl⟩
    have lb:b < 256:=by rw[hb];exact UInt8.toNat_lt _
    rw[← hb] at hcell
    have HK:=zak (show c16L r (l.take (k+1))=c16Bits (c16L r (l.take k)) b 8 by rw[za3 _ _ _ (by have:=HN.out;omega),hb])
    have hrl:=za1 hu (l.take k)
    obtain⟨r1,hr⟩:∃ r1,r1=c16L r (l.take k):= ⟨_,rfl⟩
    rw[← hr] at HK hB hrl
    clear hb hr
    go_wp2_with fail
    go_loopw [6] (fun i wr=> ∃ j,j≤8∧i= .int .i64 (7 - (j:Nat))∧ Blk wr g 61 #[.int .u16 (c16Bits r1 b j:Nat)]∧ Below w0.heap.size w0 wr) (fun i _=>(intOf i+1).toNat)
    case atStart=>exact⟨0,by omega,rfl,hB,hbr⟩
    case round=>
     clear hbr hB hcell
     obtain⟨j,hj,rfl,hB,hbr⟩:= hrel
     by_cases hj8:j < 8
     · obtain⟨m,hm⟩:∃ m,m=7 - j:=⟨_,rfl⟩
       have hm7:m≤7:=by omega
       have hmi:(7:Int) - (j:Nat)=(m:Nat):= by omega
       rw[hmi]
       have HM:=zak hm
       clear hm hmi
       go_wp2_with fail
       rw[zgh b m lb]
       refine (zgg (b / 2 ^ m % 2) (c16Bits r1 b j) g w0.heap.size w0 _ (by omega) (za0 hrl _ _) hB hbr hg).mono ?_
       rintro e w1 ⟨rfl,hB1,hb1⟩
       rw[HM.out] at hB1
       have hmm:((m:Int) - 1)=7 - ((j+1:Nat):Int):= by have:=HM.out;omega
       have HMM:=zak hmm
       clear hmm
       go_wp2_with fail
       go_roundw
       case rel=>exact⟨j+1,by omega,by rw[HMM.out],hB1,hb1⟩
       case measure=>have:=HM.out;simp[intOf]<;> omega
     · obtain rfl:j=8:=by omega
       go_wp2_with fail
       go_roundw
       case rel=>exact⟨k+1,by omega,by go_num,by rw[HK.out];exact hB,hbr⟩
       case measure=>simp[intOf];omega
  · obtain rfl:k=n:=by omega
    have HT:=zak (show l.take k=l from List.take_of_length_le (by have:=HN.out;omega))
    go_wp2_with fail
    go_end0
    exact⟨rfl,by rw[HT.out] at hB;exact hB,hbr⟩
theorem zgj (A:Option Addr) (n c s:Nat) (l:List UInt8) (w:World) (hn:n=l.length) (hl:n≤35184372088832) (hu:U16 s) (hs:Sl w A (l.map bv)) :
 Calls Try.prog 93 #[.int .u16 (s:Nat),.slice A n c] w fun e w'=>e= .returned (.int .u16 (c16L s l:Nat))∧ Below w.heap.size w w':=by
 have HN:=zak hn
 have HS:=zak hs
 have HB:=zak (zbu w 61 #[.int .u16 (s:Nat)])
 have HL:=zak (zbp (Below.refl w.heap.size w) (.cells #[.int .u16 (s:Nat)] 61))
 clear hn hs
 go_enter Try.func93,Try.ntmps93
 go_wp2_with fail
 refine (zgi A n c s w.heap.size l w _ HN.out hl hu HS.out HB.out HL.out (Nat.le_refl _)).mono ?_
 rintro e w1 ⟨rfl,hB1,hb1⟩
 have c0:=hB1.cell 0 rfl
 go_wp2_with fail
 go_ret
 exact⟨rfl,hb1⟩
theorem zgk (A:Option Addr) (n c:Nat) (l:List UInt8) (w:World) (hn:n=l.length) (hl:n≤35184372088832) (hs:Sl w A (l.map bv)) :
 Calls Try.prog 81 #[.slice A n c] w fun e w'=>e= .returned (.int .u16 (sum16L l:Nat))∧ Below w.heap.size w w':=by
 have h:=zgj A n c 0 l w hn hl (by unfold U16;omega) hs
 rw[show (((0:Nat)):Int)=0 from rfl] at h
 have HH:=zak h
 clear h hn
 go_enter Try.func81,Try.ntmps81
 go_wp2_with fail
 refine HH.out.mono ?_
 rintro e w1 ⟨rfl,hb1⟩
 go_wp2_with fail
 go_ret
 exact⟨rfl,hb1⟩
theorem zgl (A:Option Addr) (n c s:Nat) (l:List UInt8) (w:World) (hn:n=l.length) (hl:n≤35184372088832) (hs:Sl w A (l.map bv)) :
 Calls Try.prog 82 #[.slice A n c,.int .u16 (s:Nat)] w fun e w'=>e= .returned (.bool (decide (sum16L l=s)))∧ Below w.heap.size w w':=by
 have HH:=zak (zgk A n c l w hn hl hs)
 clear hn
 go_enter Try.func82,Try.ntmps82
 go_wp2_with fail
 refine HH.out.mono ?_
 rintro e w1 ⟨rfl,hb1⟩
 by_cases he:sum16L l=s
 · have hb:((sum16L l:Int) == (s:Int))=true:=by simp[he]
   go_wp2_with fail
   go_ret
   exact⟨by simp[he],hb1⟩
 · have hb:((sum16L l:Int) == (s:Int))=false:=by simp;omega
   go_wp2_with fail
   go_ret
   exact⟨by simp[he],hb1⟩
end
end Go.Proofs.Ythdbckbpldlkeaa
