/- None -/
import Derived.Test.YthdbckbpldlkeaaQ17
namespace Go.Proofs.Ythdbckbpldlkeaa
set_option linter.unusedVariables false
set_option linter.unusedSimpArgs false
set_option linter.unnecessarySimpa false
section
open Go.RowKit
set_option maxRecDepth 20000
theorem zgm {o:Oper} {a:Act} {K:Act→World→Prop} {Q:Exit→Act→World→Prop} {w:World} (s x:Operand) (ho:o.op= .call { callee:= .builtin .append,args:= #[s,x],argTypes:= #[32,32] })
 (B:Nat) (A:Option Addr) (n c:Nat) (l:List UInt8) (hs:a.eval s= .slice A n c) (hown:zb7 w B A n c l)
 (A2:Option Addr) (m c2:Nat) (l2:List UInt8) (hx:a.eval x= .slice A2 m c2) (hm:m=l2.length) (hr:Sl w A2 (l2.map bv)) (hb:n+m≤140737488355328) (hB:B≤w.heap.size) (N:Nat) (hN:n+m=N)
 (h:∀ A' c' w',zb7 w' B A' N c' (l ++ l2)→ Below B w w'→K (a.put o.dst (.slice A' N c')) w'):Oper.wp Try.prog o a w K Q:=by
 subst hN
 obtain⟨i0,hi0,hz0,hz1,hz2⟩:= info_parts zb5
 obtain⟨A',c',w',hr',h2,h3,h4⟩:= zbf (P:=Try.prog) w B 32 o.type 5 i0 _ 1 1 Try.underlying32 hi0 hz0 hz1 hz2 rfl (by omega) A n c _ hown.own A2 m c2 (l2.map bv) (by simp[hm]) hr (zbj _) (by unfold maxLen;omega) (by omega) hB
 unfold Oper.wp execOp
 simp only[ho,resolve,invoke,builtin,Sem.run_bind,Sem.run_pure,Result.andThen_ok,List.map_toArray,List.map_cons,List.map_nil,hs,hx,hr']
 exact h A' c' w' ⟨by rw[hown.hn,hm];simp,by rw[List.map_append];exact h2⟩ (zbe hown.own hB h3)
theorem zgn (A:Option Addr):A.map (fun x=>x.add 0)=A:=by
 cases A with
 | none=>rfl
 | some a=>
   obtain⟨b,o,s⟩:= a
   cases s<;>simp[Addr.add]
theorem zgo (A:Option Addr) (n c k:Nat) (kk:Int) (kd:IntKind) (hk:kk=(k:Int)) (hc:k≤c) (w:World) :
 (Instr.slice 32 (.slice A n c) none (some (.int kd kk)) none).run Try.prog w= .ok (.slice A k c) w:=by
 subst hk
 obtain⟨i0,hi0,hz0,hz1,hz2⟩:= info_parts zb5
 have he:Try.prog.elem 32=5:=by simp[Program.elem,Try.underlying32]
 have ht':Try.prog.underlying 32=some (.slice (Try.prog.elem 32)):= by rw[he];exact Try.underlying32
 rw[run_slice_h (P:=Try.prog) (w:=w) (t:=32) (a:=A) (len:=n) (cap:=c) ht' kd k (by omega) (by omega)]
 simp[he,sizeOf,typeInfo,hi0,sliced,zgn]
end
section
open Go.RowKit Go.Maps
set_option maxRecDepth 100000
set_option maxHeartbeats 8000000
section
variable {w0:World} {G:Nat→Prop} {p m:Nat} {ks:List KB}
theorem zgp:∀ M ∈ [bueM],MsOk M:=by
 intro M hM
 simp at hM
 subst hM
 exact⟨Nat.zero_le _,Nat.zero_le _,Nat.zero_le _⟩
theorem zgq (S:CliS) (R:CR) (M:Ms) (A:Option Addr) (n c:Nat) (W:World) (rs:List RB) (h:CM w0 G p m S.wk (cliL S m R) ks rs W) (hw:0≤S.wk∧S.wk≤21) (hE:EOk S R) (hb:⟨R.A,R.n,R.c,S.b⟩ ∈ rs) (hn2:R.n2=S.data.length) (hd:S.data= []) (hl:S.b.length≤100000) (hem:0≤M.em∧M.em≤7) (hsum:M.sum≤65535) :
 Calls Try.prog 60 #[.pointer (some ⟨p,0,none⟩),.agg (msV M A n c)] W (zf4 w0 G p m (cLsS S M) (cLsL S M)):= by
 have hnr:R.n=S.b.length:=(h.rows _ hb).1.hn
 have hnc:R.n≤R.c:=(h.rows _ hb).1.le
 have H1:Hid (CM w0 G p m S.wk (cliL S m R) (⟨W.heap.size,63,(msV M A n c).toList⟩ :: ks) (⟨R.A,R.n,R.c,S.b⟩ :: []) (W.alloc (.cells (msV M A n c) 63))):= zak (((h.new _ _ (by decide)).subr (by
  intro r hr
  simp at hr
  subst hr
  exact hb)))
 have HE:=zak hE
 have HW:=zak hw
 have HN2:=zak hn2
 have HD:=zak hd
 obtain⟨em,hemm⟩:∃ em:Nat,M.em=(em:Int):= ⟨M.em.toNat,by omega⟩
 obtain⟨k,hk⟩:∃ k:Nat,k=S.b.length - em:=⟨_,rfl⟩
 have HB:Hid (cLsB S M=S.b.take k):= zak (by unfold cLsB;rw[hemm,hk];rfl)
 obtain⟨P,hP⟩:∃ P,P=zf4 w0 G p m (cLsS S M) (cLsL S M):= ⟨_,rfl⟩
 have HP:=zak hP
 rw[← hP]
 have hem7:em≤7:=by omega
 have hb1:R.n≤100000:=by omega
 obtain⟨nr,hnrr⟩:∃ nr,nr=R.n:=⟨_,rfl⟩
 have HNR:Hid (nr=S.b.length):= zak (by rw[hnrr,hnr])
 have HNRR:=zak hnrr
 rw[← hnrr] at hb1 hnc
 have hkn:k≤nr:=by rw[hk,hnrr,hnr];omega
 have hkc:k≤R.c:=by omega
 have hmax:(if (nr:Int) - (em:Int) < 0 then 0 else (nr:Int) - (em:Int))=(k:Int):= by rw[hk,hnrr,hnr];split<;>omega
 have hcut:=fun W=>zgo R.A nr R.c k (k:Int) .i64 rfl hkc W
 have HEM:=zak hemm
 have HK:=zak hk
 have HSU:=zak hsum
 clear h hE hw hn2 hd hb hP hnr hl hem hemm hk hnrr hsum
 unfold msV at H1 ⊢
 go_enter Try.func60,Try.ntmps60
 go_upto_region 1 with fail
 refine zcn (P:=fun W1=>CM w0 G p m S.wk (cliL S m R) (⟨W.heap.size,63,(msV M A n c).toList⟩ :: ks) (⟨R.A,R.n,R.c,S.b⟩ :: []) W1) (by exact H1.out) (fun W1 h1=>?_)
 obtain⟨g,hg⟩:∃ g,g=W.heap.size:=⟨_,rfl⟩
 rw[← hg] at h1 ⊢
 clear H1 hg
 have H1:=zak h1
 have z1:=h1.lt
 have q:Blk W1 g 63 (msV M A n c):= h1.k0
 have zg:=q.lt
 have q12:W1.cell? ⟨g,12,none⟩=some (.int .i64 (em:Int)):= by rw[← HEM.out];exact q.cell 12 rfl
 have c17:W1.cell? ⟨p,17,none⟩=some (.slice R.A nr R.c):= by rw[HNRR.out];exact h1.blk.cell 17 rfl
 clear h1 q
 go_quiet (fail)
 go_upto_region 3 with fail
 refine zcn (P:=CM w0 G p m S.wk (cliL S m R) (⟨g,63,(msV M A n c).toList⟩ :: ks) (⟨R.A,R.n,R.c,S.b⟩ :: [])) (H1.out.step (zb2 (Below.refl _ _) _)) (fun W2 h2=>?_)
 clear H1 z1 zg q12 c17 hcut hmax
 have H2:=zak h2
 have z2:=h2.lt
 have q:Blk W2 g 63 (msV M A n c):= h2.k0
 have zg:=q.lt
 have q13:W2.cell? ⟨g,13,none⟩=some (.int .u16 (M.sum:Nat)):= q.cell 13 rfl
 have HPc:Hid (∀ code:Nat,cLsC S M=code→code≠0→P=zf4 w0 G p m (cEnd S code []) (cFailL S code)):= zak (fun code h1 h0=>by
  rw[HP.out];unfold cLsS cLsL;rw[h1,if_pos h0,if_pos h0])
 have HP0:Hid (cLsC S M=0→P=zf4 w0 G p m (cEnd S 0 (S.b.take k)) (cSend S [bueM])):= zak (fun h1=>by
  rw[HP.out];unfold cLsS cLsL;rw[h1,if_neg (by simp),if_neg (by simp),HB.out])
 obtain⟨ec,hec⟩:∃ ec,ec=S.ec:=⟨_,rfl⟩
 have c26:W2.cell? ⟨p,26,none⟩=some (.bool ec):= by rw[hec,← HE.out.1];exact h2.blk.cell 26 rfl
 have HEC:=zak hec
 clear h2 q hec
 cases ec
 · have hok: ¬ (S.ec=true∧sum16L (cLsB S M)≠ M.sum):= by rw[← HEC.out];simp
   have HOK:=zak hok
   clear hok
   by_cases hneg:(nr:Int) - (em:Int) < 0
   · have HC:Hid (cLsC S M=101122064):= zak (by unfold cLsC;rw[if_neg HOK.out,if_pos (.inl (by rw[HEM.out,← HNR.out];omega))])
     have dneg:decide ((nr:Int) - (em:Int) < 0)=true:=decide_eq_true hneg
     go_wp2_with fail
     refine (zfs S R 101122064 _ H2.out HW.out HE.out (by omega)).mono ?_
     rintro e W10 hR
     obtain⟨As,ns,cs,rfl⟩:= hR.shape
     have HR:=zak hR
     clear hR
     go_wp2_with fail
     rw[HPc.out 101122064 HC.out (by decide)]
     exact HR.out
   · have dneg:decide ((nr:Int) - (em:Int) < 0)=false:=decide_eq_false hneg
     have HNG:=zak hneg
     go_wp2_with fail
     refine (zfv S R ((nr:Int) - (em:Int)) _ H2.out HE.out).mono ?_
     rintro e W9 ⟨rfl,hw9⟩
     subst hw9
     have HSE:Hid (cSzB S ((nr:Int) - (em:Int))=cSzB S ((S.b.length:Int) - M.em)):= zak (by rw[HEM.out,← HNR.out])
     cases hs:cSzB S ((nr:Int) - (em:Int))
     · have HC:Hid (cLsC S M=101122064):= zak (by unfold cLsC;rw[if_neg HOK.out,if_pos (.inr (by rw[← HSE.out];exact hs))])
       clear hs
       go_wp2_with fail
       refine (zfs S R 101122064 _ H2.out HW.out HE.out (by omega)).mono ?_
       rintro e W10 hR
       obtain⟨As,ns,cs,rfl⟩:= hR.shape
       have HR:=zak hR
       clear hR
       go_wp2_with fail
       rw[HPc.out 101122064 HC.out (by decide)]
       exact HR.out
     · have HC:Hid (cLsC S M=0):= zak (by unfold cLsC;rw[if_neg HOK.out,if_neg (by rintro (h | h);rw[HEM.out,← HNR.out] at h;have h5:=HNG.out;omega;rw[← HSE.out,hs] at h;cases h)])
       clear hs
       have HKL:Hid (k=(S.b.take k).length):= zak (by rw[List.length_take,← HNR.out];omega)
       go_wp2_with fail
       refine (zc1 0 R.A k R.c (S.b.take k) _ H2.out rfl rfl HW.out HKL.out (by omega) (fun W' hc=>by rw[List.map_take];exact hc.r0.sl.take _)).mono ?_
       rintro e W10 ⟨rfl,A9,c9,h9⟩
       have H9:Hid (CM w0 G p m 0 (cliL (cEnd S 0 (S.b.take k)) m { R with A2:=A9,n2:=k,c2:=c9 }) (⟨g,63,(msV M A n c).toList⟩ :: ks) (⟨A9,k,c9,S.b.take k⟩ :: ⟨R.A,R.n,R.c,S.b⟩ :: []) W10):= zak h9
       have z9:=h9.lt
       have HD9:=zak (H9.out.alloc (.cells (msV bueM none 0 0) 63))
       have HB9:=zak (zbu W10 63 (msV bueM none 0 0))
       unfold msV bueM at HD9 HB9
       clear h9 H9
       go_wp2_with fail
       refine (zfj p (1536+S.nd) [bueM] _ 1 1 _ (HD9.out.blk.cell 1 rfl) rfl (zff (M:=bueM) HB9.out rfl (Sl.nil _ _)) zgp (by omega)).mono ?_
       rintro e w6 ⟨As,ns,cs,ds,rfl,hO,hb⟩
       have HF:=zak (zfp (S:=cEnd S 0 (S.b.take k)) (R:={ R with A2:=A9,n2:=k,c2:=c9 }) (L:= [bueM]) HD9.out HE.out (fun h=>absurd rfl h) HKL.out (fun _=>by simp[cEnd]) ⟨As,ns,cs,ds,rfl,hO,hb⟩)
       clear hO hb
       go_wp2_with fail
       rw[HP0.out HC.out]
       exact HF.out
 · go_wp2_with fail
   refine (zgl R.A k R.c M.sum (S.b.take k) _ (by rw[List.length_take,← HNR.out];omega) (by omega) (by rw[List.map_take];exact H2.out.r0.sl.take _)).mono ?_
   rintro e W3 ⟨rfl,hb3⟩
   have H3:=zak (H2.out.step hb3)
   have z3:=H3.out.lt
   clear hb3
   by_cases hsm:sum16L (S.b.take k)=M.sum
   · rw[decide_eq_true hsm]
     have hok: ¬ (S.ec=true∧sum16L (cLsB S M)≠ M.sum):= by rw[HB.out];exact fun h=>h.2 hsm
     have HOK:=zak hok
     clear hok hsm
     by_cases hneg:(nr:Int) - (em:Int) < 0
     · have HC:Hid (cLsC S M=101122064):= zak (by unfold cLsC;rw[if_neg HOK.out,if_pos (.inl (by rw[HEM.out,← HNR.out];omega))])
       have dneg:decide ((nr:Int) - (em:Int) < 0)=true:=decide_eq_true hneg
       go_wp2_with fail
       refine (zfs S R 101122064 _ H3.out HW.out HE.out (by omega)).mono ?_
       rintro e W10 hR
       obtain⟨As,ns,cs,rfl⟩:= hR.shape
       have HR:=zak hR
       clear hR
       go_wp2_with fail
       rw[HPc.out 101122064 HC.out (by decide)]
       exact HR.out
     · have dneg:decide ((nr:Int) - (em:Int) < 0)=false:=decide_eq_false hneg
       have HNG:=zak hneg
       go_wp2_with fail
       refine (zfv S R ((nr:Int) - (em:Int)) _ H3.out HE.out).mono ?_
       rintro e W9 ⟨rfl,hw9⟩
       subst hw9
       have HSE:Hid (cSzB S ((nr:Int) - (em:Int))=cSzB S ((S.b.length:Int) - M.em)):= zak (by rw[HEM.out,← HNR.out])
       cases hs:cSzB S ((nr:Int) - (em:Int))
       · have HC:Hid (cLsC S M=101122064):= zak (by unfold cLsC;rw[if_neg HOK.out,if_pos (.inr (by rw[← HSE.out];exact hs))])
         clear hs
         go_wp2_with fail
         refine (zfs S R 101122064 _ H3.out HW.out HE.out (by omega)).mono ?_
         rintro e W10 hR
         obtain⟨As,ns,cs,rfl⟩:= hR.shape
         have HR:=zak hR
         clear hR
         go_wp2_with fail
         rw[HPc.out 101122064 HC.out (by decide)]
         exact HR.out
       · have HC:Hid (cLsC S M=0):= zak (by unfold cLsC;rw[if_neg HOK.out,if_neg (by rintro (h | h);rw[HEM.out,← HNR.out] at h;have h5:=HNG.out;omega;rw[← HSE.out,hs] at h;cases h)])
         clear hs
         have HKL:Hid (k=(S.b.take k).length):= zak (by rw[List.length_take,← HNR.out];omega)
         go_wp2_with fail
         refine (zc1 0 R.A k R.c (S.b.take k) _ H3.out rfl rfl HW.out HKL.out (by omega) (fun W' hc=>by rw[List.map_take];exact hc.r0.sl.take _)).mono ?_
         rintro e W10 ⟨rfl,A9,c9,h9⟩
         have H9:Hid (CM w0 G p m 0 (cliL (cEnd S 0 (S.b.take k)) m { R with A2:=A9,n2:=k,c2:=c9 }) (⟨g,63,(msV M A n c).toList⟩ :: ks) (⟨A9,k,c9,S.b.take k⟩ :: ⟨R.A,R.n,R.c,S.b⟩ :: []) W10):= zak h9
         have z9:=h9.lt
         have HD9:=zak (H9.out.alloc (.cells (msV bueM none 0 0) 63))
         have HB9:=zak (zbu W10 63 (msV bueM none 0 0))
         unfold msV bueM at HD9 HB9
         clear h9 H9
         go_wp2_with fail
         refine (zfj p (1536+S.nd) [bueM] _ 1 1 _ (HD9.out.blk.cell 1 rfl) rfl (zff (M:=bueM) HB9.out rfl (Sl.nil _ _)) zgp (by omega)).mono ?_
         rintro e w6 ⟨As,ns,cs,ds,rfl,hO,hb⟩
         have HF:=zak (zfp (S:=cEnd S 0 (S.b.take k)) (R:={ R with A2:=A9,n2:=k,c2:=c9 }) (L:= [bueM]) HD9.out HE.out (fun h=>absurd rfl h) HKL.out (fun _=>by simp[cEnd]) ⟨As,ns,cs,ds,rfl,hO,hb⟩)
         clear hO hb
         go_wp2_with fail
         rw[HP0.out HC.out]
         exact HF.out
   · rw[decide_eq_false hsm]
     have HC:Hid (cLsC S M=84148228):= zak (by unfold cLsC;rw[if_pos ⟨HEC.out.symm,by rw[HB.out];exact hsm⟩])
     clear hsm
     go_wp2_with fail
     refine (zfs S R 84148228 _ H3.out HW.out HE.out (by omega)).mono ?_
     rintro e W10 hR
     obtain⟨As,ns,cs,rfl⟩:= hR.shape
     have HR:=zak hR
     clear hR
     go_wp2_with fail
     rw[HPc.out 84148228 HC.out (by decide)]
     exact HR.out
end
end
section
open Go.RowKit Go.Maps
set_option maxRecDepth 100000
set_option maxHeartbeats 8000000
section
variable {w0:World} {G:Nat→Prop} {p m:Nat} {ks:List KB} {rs:List RB}
theorem zgr (em:Int) (sum:Nat) (h:sum≤65535):∀ M ∈ [bdeM em sum],MsOk M:=by
 intro M hM
 simp at hM
 subst hM
 exact⟨Nat.zero_le _,Nat.zero_le _,h⟩
theorem zgs (tot h:Nat) (b:List UInt8) (k:Nat):∀ M ∈ crowT tot h b k,MsOk M:=by
 intro M hM
 unfold crowT at hM
 rw[List.mem_map] at hM
 obtain⟨i,_,rfl⟩:= hM
 exact⟨Nat.zero_le _,Nat.zero_le _,Nat.zero_le _⟩
theorem zgt (tot h:Nat) (b:List UInt8) (k:Nat):crowT tot h b (k+1)=crowT tot h b k ++ [bsegM ((k:Int)+1) (decide ((h:Int)+(k:Int)+1=(tot:Int))) (bpiece b (h+k))]:= by
 unfold crowT
 rw[List.range_succ,List.map_append]
 rfl
theorem zgu (tot h:Nat) (b:List UInt8) (k:Nat):(crowT tot h b k).length=k:=by simp[crowT]
theorem CM.self {wk:Int} {cs:List Value} {W:World} (h:CM w0 G p m wk cs ks rs W):CM W (fun _=>False) p m wk cs ks [] W:=⟨h.blk,h.wm,zcd.of_below (Below.refl _ _),h.keep,fun r hr=>by cases hr⟩
theorem CM.join {wk wk':Int} {cs cs':List Value} {W W':World} (h:CM w0 G p m wk cs ks rs W) (k:CM W (fun _=>False) p m wk' cs' ks [] W'):CM w0 G p m wk' cs' ks rs W':=
 ⟨k.blk,k.wm,h.only.trans k.only (fun i _ e=>by
   rcases e with e | e | e
   · exact .inl e
   · exact .inr (.inl e)
   · exact e.elim),k.keep,fun r hr=>⟨⟨(h.rows r hr).1.hn,(h.rows r hr).1.own.keep fun g _ hlt hA=>k.only.block g hlt (by
     rintro (e | e | e)
     · exact zcu (h.rows r hr).1 h.blk zcv g hA e
     · exact h.wm.row_ne (h.rows r hr).1.own g hA e
     · exact e)⟩,(h.rows r hr).2⟩⟩
theorem zgv (S:CliS) (R:CR) (most:Int) (W:World) (h:CM w0 G p m S.wk (cliL S m R) ks rs W) (hw:0≤S.wk∧S.wk≤21) (hE:EOk S R) (hb:⟨R.A,R.n,R.c,S.b⟩ ∈ rs) (hn2:R.n2=S.data.length) (hd:S.data= []) (hl:S.b.length≤100000) (hge:(btotal S.b:Int)≤ S.at_) :
 Calls Try.prog 58 #[.pointer (some ⟨p,0,none⟩),.int .i64 most] W (zf4 w0 G p m (cRowsS S most) (cRowsL S most)):= by
 have hnr:R.n=S.b.length:=(h.rows _ hb).1.hn
 have HNR:=zak hnr
 have HC:=zak h
 have HE:=zak hE
 have HW:=zak hw
 have HBB:=zak hb
 have HN2:=zak hn2
 have HD:=zak hd
 have hb1:R.n≤100000:=by omega
 obtain⟨P,hP⟩:∃ P,P=zf4 w0 G p m (cRowsS S most) (cRowsL S most):= ⟨_,rfl⟩
 have HP:Hid (P=zf4 w0 G p m { S with wk:=18 } (cSend S [bdeM (7 * (btotal S.b:Int) - S.b.length) (sum16L S.b)])):= zak (by
  rw[hP];unfold cRowsS cRowsL;rw[if_pos hge,if_pos hge])
 rw[← hP]
 have z:=h.lt
 have c18:W.cell? ⟨p,18,none⟩=some (.int .i64 S.at_):= h.blk.cell 18 rfl
 obtain⟨tot,htot⟩:∃ tot,tot=btotal S.b:=⟨_,rfl⟩
 have HT:=zak htot
 have ht1:tot≤100000:=by rw[htot];unfold btotal;omega
 rw[← htot] at hge
 clear h hw hE hb hn2 hd hl hP hnr htot
 go_enter Try.func58,Try.ntmps58
 go_wp2_with fail
 refine (zfw S R _ HC.out HNR.out hb1).mono ?_
 rintro e w1 ⟨rfl,hw1⟩
 subst hw1
 rw[← HT.out]
 go_wp2_with fail
 refine (zcw 18 _ HC.out rfl HW.out ⟨by omega,by omega⟩).mono ?_
 rintro e W1 ⟨rfl,h1⟩
 have H1:Hid (CM w0 G p m 18 (cliL { S with wk:=18 } m R) ks rs W1):= zak h1
 have z1:=h1.lt
 have c17:W1.cell? ⟨p,17,none⟩=some (.slice R.A R.n R.c):= h1.blk.cell 17 rfl
 clear h1 HC c18 z hge
 have hw7:IntKind.i64.wrap ((tot:Int) * 7 - (R.n:Int))=(tot:Int) * 7 - (R.n:Int):= by unfold IntKind.wrap;simp[IntKind.signed,IntKind.bits];omega
 have hw8:IntKind.i64.wrap ((tot:Int) * 7)=(tot:Int) * 7:=by unfold IntKind.wrap;simp[IntKind.signed,IntKind.bits];omega
 go_upto_region 4 with fail
 refine wp_region_held_drew (S:=(fun w'=>(∀ qA:Addr,qA.block < (W1).heap.size→w'.cell? qA=(W1).cell? qA)∧ Below (W1).heap.size (W1) w')) (by kernel_rfl) ?hS1 (fun hHeld=>?rest1)
 case hS1=>((try dsimp only);(((try go_split_ands);refine zbn ?_;all_goals exact bl)))
 case' rest1=>skip
 iterate 13 (refine tkN ?_;try simp only[PqL,Act.put])
 refine wpAnyH_ready (rs:= [13]) (by kernel_rfl) (by simp) ?_
 refine AllReadyH.cons (o:=_) rfl (fun K hK=>?_) .nil
 go_simp
 refine (zgk R.A R.n R.c S.b _ HNR.out (by omega) ((H1.out.step bl).rows _ HBB.out).1.sl).mono ?_
 rintro e W3 ⟨rfl,hb3⟩
 have hb3':Below W1.heap.size W1 W3:=zbo hb3 (zb3 (Below.refl _ _))
 have H3:=zak (H1.out.step hb3')
 clear hb3
 refine hK.out _ _ ?hS17 (fun hHeld=>?rest17)
 case hS17=>((try dsimp only);(((try go_split_ands);refine zbn ?_;all_goals exact bl)))
 case' rest17=>(clear hK K;try simp only[PqL,Act.put])
 refine tkH 14 ?_
 try simp only[PqL,Act.put]
 have HD9:=zak (H3.out.alloc (.cells (msV (bdeM ((tot:Int) * 7 - (R.n:Int)) (sum16L S.b)) none 0 0) 63))
 have HB9:=zak (zbu W3 63 (msV (bdeM ((tot:Int) * 7 - (R.n:Int)) (sum16L S.b)) none 0 0))
 unfold msV bdeM at HD9 HB9
 refine wpAnyH_ready (rs:= [15]) (by kernel_rfl) (by simp) ?_
 refine AllReadyH.cons (o:=_) rfl (fun K hK=>?_) .nil
 go_simp
 refine hK.out _ _ ?hS21 (fun hHeld=>?rest21)
 case hS21=>((try dsimp only);(((try go_split_ands);refine zbn ?_;all_goals exact bl)))
 case' rest21=>(clear hK K;try simp only[PqL,Act.put])
 refine wpAnyH_ready (rs:= [16]) (by kernel_rfl) (by simp) ?_
 refine AllReadyH.cons (o:=_) rfl (fun K hK=>?_) .nil
 go_simp
 refine (zfj p (1536+S.nd) [bdeM ((tot:Int) * 7 - (R.n:Int)) (sum16L S.b)] _ 1 1 _ (HD9.out.blk.cell 1 rfl) rfl (zff (M:=bdeM ((tot:Int) * 7 - (R.n:Int)) (sum16L S.b)) HB9.out rfl (Sl.nil _ _)) (zgr _ _ (by have:=za4 S.b;unfold U16 at this;omega)) (by omega)).mono ?_
 rintro e w6 ⟨As,ns,cs,ds,rfl,hO,hb⟩
 have HF:=zak (zfp (S:={ S with wk:=18 }) (R:=R) (L:= [bdeM ((tot:Int) * 7 - (R.n:Int)) (sum16L S.b)]) HD9.out HE.out (fun _=>HBB.out) HN2.out (fun h=>absurd HD.out h) ⟨As,ns,cs,ds,rfl,hO,hb⟩)
 clear hO
 refine hK.out _ _ ?hS24 (fun hHeld=>?rest24)
 case hS24=>((try dsimp only);(((try go_split_ands);refine zbn ?_;all_goals exact bl)))
 case' rest24=>(clear hK K;try simp only[PqL,Act.put])
 refine tkH 17 ?_
 try simp only[PqL,Act.put]
 refine wpAnyH_done (by kernel_rfl) ?_ _
 have hEnd:=hHeld.2
 repeat (clear hHeld)
 go_wp2_with fail
 rw[HP.out,show 7 * (btotal S.b:Int) - (S.b.length:Int)=(tot:Int) * 7 - (R.n:Int) by rw[← HT.out,← HNR.out];omega]
 exact HF.out
def RowL (W2:World) (b:List UInt8) (r tot a:Nat) (vl vi:Value) (wr:World):Prop:=
 ∃ k A' c' ds,vi= .int .i64 (k:Nat)∧ vl= .slice A' k c'∧k≤r∧OwnM wr (fun g=>W2.heap.size≤g) A' k c' (crowT tot a b k) ds∧Below W2.heap.size W2 wr
theorem zgw (S:CliS) (R:CR) (most:Int) (W:World) (h:CM w0 G p m S.wk (cliL S m R) ks rs W) (hw:0≤S.wk∧S.wk≤21) (hE:EOk S R) (hb:⟨R.A,R.n,R.c,S.b⟩ ∈ rs) (hn2:R.n2=S.data.length) (hd:S.data= []) (hl:S.b.length≤100000) (a:Nat) (ha:S.at_=(a:Int)) (hlt:a < btotal S.b) (hm:0≤most∧most≤1000) :
 Calls Try.prog 58 #[.pointer (some ⟨p,0,none⟩),.int .i64 most] W (zf4 w0 G p m (cRowsS S most) (cRowsL S most)):= by
 have hnr:R.n=S.b.length:=(h.rows _ hb).1.hn
 have hrc:R.n≤R.c:=(h.rows _ hb).1.le
 have HNR:=zak hnr
 have HC:=zak h
 have HE:=zak hE
 have HW:=zak hw
 have HBB:=zak hb
 have HN2:=zak hn2
 have HD:=zak hd
 have hb1:R.n≤100000:=by omega
 obtain⟨tot,htot⟩:∃ tot,tot=btotal S.b:=⟨_,rfl⟩
 have HT:=zak htot
 have ht1:tot≤100000:=by rw[htot];unfold btotal;omega
 rw[← htot] at hlt
 obtain⟨r,hr⟩:∃ r:Nat,(r:Int)=min most ((tot:Int) - (a:Int)):= ⟨(min most ((tot:Int) - (a:Int))).toNat,by omega⟩
 have hr1:r≤1000:=by omega
 have hra:a+r≤tot:=by omega
 have hmin1:(if (tot:Int) - (a:Int) < most then (tot:Int) - (a:Int) else most)=(r:Int):= by split<;>omega
 have hrow:cRowN S most=(r:Int):= by unfold cRowN;rw[ha,← htot,hr]
 obtain⟨P,hP⟩:∃ P,P=zf4 w0 G p m (cRowsS S most) (cRowsL S most):= ⟨_,rfl⟩
 have hnl: ¬ (btotal S.b:Int)≤ S.at_:=by rw[ha,← htot];omega
 have HP:Hid (P=zf4 w0 G p m { S with ro:=(r:Int),wk:=17 } (cSend S (crowT tot a S.b r))):= zak (by
  rw[hP];unfold cRowsS cRowsL cRowM;rw[if_neg hnl,if_neg hnl,hrow,← htot,ha];rfl)
 rw[← hP]
 have z:=h.lt
 have c18:W.cell? ⟨p,18,none⟩=some (.int .i64 (a:Int)):= by rw[← ha];exact h.blk.cell 18 rfl
 have c19:W.cell? ⟨p,19,none⟩=some (.int .i64 S.ro):= h.blk.cell 19 rfl
 have f19:=h.blk.frozen 19
 have HA:=zak ha
 have hat: ¬ (tot:Int)≤ (a:Int):= by omega
 clear h hw hE hb hn2 hd hl hP hnr htot hr hrow hnl ha hm
 obtain⟨i0,hi0,hz0,hz1,hz2⟩:= info_parts ze8
 go_enter Try.func58,Try.ntmps58
 go_wp2_with fail
 refine (zfw S R _ HC.out HNR.out hb1).mono ?_
 rintro e w1 ⟨rfl,hw1⟩
 subst hw1
 rw[← HT.out]
 have H2:Hid (CM w0 G p m S.wk (cliL { S with ro:=(r:Int) } m R) ks rs (W.setCell ⟨p,19,none⟩ (.int .i64 (r:Int)))):= zak (HC.out.set 19 _)
 go_upto_region 7 with fail
 refine zcn (P:=CM w0 G p m S.wk (cliL { S with ro:=(r:Int) } m R) ks rs) H2.out (fun W2 h2=>?_)
 clear H2 HC c18 c19 f19 z
 have HC:=zak h2
 have z:=h2.lt
 have c19:W2.cell? ⟨p,19,none⟩=some (.int .i64 (r:Int)):= h2.blk.cell 19 rfl
 clear h2
 go_wp2_with fail
 go_loopw [6,7,8,9,52,53,54,55,56,57,58,59,60,61,62,63,64,65,66,67,68,69,70,71,72,73,74,75,76,77,78,79,80,81,82] (fun vl _ _ _ vi _ _ _ _ _ _ _ _ _ _ _ _ _ _ _ _ _ _ _ _ _ _ _ _ _ _ _ _ _ _ wr=>RowL W2 S.b r tot a vl vi wr) (fun _ _ _ _ vi _ _ _ _ _ _ _ _ _ _ _ _ _ _ _ _ _ _ _ _ _ _ _ _ _ _ _ _ _ _ _=>r - (intOf vi).toNat)
 case atStart=>exact⟨0,none,0,[],rfl,rfl,Nat.zero_le _,zcj.nil _ _,Below.refl _ _⟩
 case round=>
  obtain⟨k,A',c',ds,rfl,rfl,hk,hOM,hbr⟩:= hrel
  have HOM:=zak hOM
  have HBR:=zak hbr
  have HCr:=zak (HC.out.step hbr)
  have zr:=HCr.out.lt
  have hzr:=hbr.size
  by_cases hlt2:k < r
  · obtain⟨kk,hkk⟩:∃ kk,kk=a+k:=⟨_,rfl⟩
    have hki:(a:Int)+(k:Int)=(kk:Int):= by omega
    have hkk2:kk≤200000:=by omega
    have h7k:7 * kk≤R.n:=by
     have h1:=HT.out
     have h2:=HNR.out
     unfold btotal at h1
     omega
    have hcut:=fun W=>zcb R.A R.n R.c (7 * kk) ((kk:Int) * 7) .i64 (by omega) h7k hrc W
    have HEE:Hid ((S.b.drop (7 * kk)).take 7 ++ (List.replicate 7 0).drop (R.n - 7 * kk)=bpiece S.b kk):= zak (by
     unfold bpiece
     rw[List.drop_replicate,HNR.out])
    have HKK:=zak hkk
    have c18:wr.cell? ⟨p,18,none⟩=some (.int .i64 (a:Int)):= by rw[← HA.out];exact HCr.out.blk.cell 18 rfl
    clear hOM hbr hkk
    go_upto_region 12 with (at_make;refine zb9 _ rfl _ _ rfl .i64 .i64 7 7 7 7 rfl rfl rfl rfl (Nat.le_refl _) (by omega) wr.heap.size rfl ?_;intro w6 hO6 hz6 hb6;have HO6:=zak hO6;clear hO6)
    have HC6:=zak (HCr.out.step hb6)
    have HM6:=zak (HOM.out.below hb6)
    have HBL6:=zak (zbo hb6 HBR.out)
    have HB6:=zak hb6
    have zp6:=HC6.out.lt
    have c17:w6.cell? ⟨p,17,none⟩=some (.slice R.A R.n R.c):= HC6.out.blk.cell 17 rfl
    obtain⟨Am,hAm⟩:∃ Am,Am=cutA R.A R.c (7 * kk) 1:=⟨_,rfl⟩
    rw[← hAm] at hcut
    have HSd:Hid (Sl w6 Am ((S.b.drop (7 * kk)).map bv)):= zak (by
     rw[hAm]
     have h2:=((HC6.out.rows _ HBB.out).1.sl).cutA (k:=7 * kk) (c:=R.c) (s:=1) (by simp;have:=HNR.out;omega) (by omega)
     rw[Nat.mul_one,← List.map_drop] at h2
     exact h2)
    have HDL:Hid (R.n - 7 * kk=(S.b.drop (7 * kk)).length):= zak (by rw[List.length_drop,← HNR.out])
    clear hb6 hAm
    go_upto_region 13 with (with_reducible refine cpy_b _ rfl (.tmp 62) (.tmp 69) rfl wr.heap.size _ 7 _ rfl HO6.out _ _ _ (S.b.drop (7 * kk)) rfl HDL.out HSd.out (Nat.le_of_lt hz6) (bpiece S.b kk) HEE.out ?_;intro w7 hO7 hg7 hb7;have HO7:=zak hO7;have HB7:=zak hb7;clear hO7 hg7)
    obtain⟨dd,hdd⟩:∃ dd,dd=bpiece S.b kk:=⟨_,rfl⟩
    have hdl:dd.length=7:=by rw[hdd];unfold bpiece;simp only[List.length_append,List.length_take,List.length_drop,List.length_replicate];omega
    obtain⟨la,hla⟩:∃ la,la=decide ((a:Int)+(k:Int)+1=(tot:Int)):= ⟨_,rfl⟩
    have hlb:((kk:Int)+1 == (tot:Int))=la:=by
     rw[hla,← hki]
     by_cases hx:(a:Int)+(k:Int)+1=(tot:Int)
     · simp[hx]
     · simp[hx]
    have hb7:=HB7.out
    have HM7:=zak (((HOM.out.mono (G:=fun g=>W2.heap.size≤g∧g < wr.heap.size) (fun g h1 h2=>⟨h2,h1⟩)).keep (w':=w6) (fun g hg _=>HB6.out.block g hg.2)).keep (w':=w7) (fun g hg _=>hb7.block g hg.2))
    have HBL7:=zak (HBL6.out.trans (hb7.mono hzr))
    have HC7:Hid (∀ o:Obj,OwnM (w7.alloc o) (fun g=>W2.heap.size≤g) A' k c' (crowT tot a S.b k) ds):= zak (fun o=>(HM7.out.below (zbp (Below.refl _ _) o)).mono (fun g _ hg=>hg.1))
    have HOd:Hid (∀ o:Obj,zb7 (w7.alloc o) 0 (some ⟨wr.heap.size,0,none⟩) dd.length 7 dd):= zak (fun o=>by rw[hdl,hdd];exact (HO7.out.alloc o).mono (Nat.zero_le _))
    have HDL2:=zak hdl
    have HDD:=zak hdd
    have HLA:=zak hla
    clear hb7 hdl hdd hla c17 c18 hcut HC6 HM6 HSd
    go_wp2_with (at_builtin;refine zck _ rfl _ _ 94 rfl ze6 ze7 (by decide) i0 _ 96 Try.underlying94 hi0 hz0 hz1 hz2 rfl (by omega) (by omega) A' k c' (crowT tot a S.b k) ds rfl (HC7.out _) (⟨21,0,0,false,la,false,false,0,0,dd,(k:Int)+1,0,0,0⟩:Ms) (some ⟨wr.heap.size,0,none⟩,7) _ rfl (by simp only[msF];rw[HDL2.out];exact (Blk.new _ _ _).sl) (HOd.out _) (by intro g hg;injection hg with hg;injection hg with hg;subst hg;exact hzr) (fun g hg=>by have hz9:=HBL7.out.size;simp at hg;omega) (by omega) (k+1) rfl ?_;intro A4 c4 w9 hO9 hg9 hA9)
    have hgo:=zcd.of_grown (F:=fun g=>W2.heap.size≤g) hg9 (fun q hq=>(zfi HM7.out hq).1)
    have HB9:=zak ((zbp HBL7.out _).trans (hgo.below (N:=W2.heap.size) (by have:=HBL7.out.size;simp;omega) (fun q hq=>hq)))
    have HO9:=zak hO9
    clear hO9 hg9 hA9 hgo
    refine⟨?_,?_⟩
    · repeat apply Exists.intro
      refine⟨?h,by rw[show decide (tot≤a)=false from decide_eq_false (by omega)]⟩
      refine⟨k+1,A4,c4,ds ++ [(some ⟨wr.heap.size,0,none⟩,7)],by go_num,rfl,by omega,?_,HB9.out⟩
      rw[zgt]
      have h9:=HO9.out
      rw[HLA.out,HDD.out,HKK.out] at h9
      exact h9
    · simp[intOf]
      omega
  · obtain rfl:k=r:=by omega
    have HW3:=zak (HC.out.step hbr)
    clear hOM hbr
    go_wp2_with fail
    refine (zcw 17 _ HW3.out.self rfl HW.out ⟨by omega,by omega⟩).mono ?_
    rintro e W4 ⟨rfl,h4⟩
    have HO4:=zak (HOM.out.keep (w':=W4) (fun g hg hlt=>h4.only.block g hlt (by
     have h1:=HC.out.lt
     have h2:=HC.out.wm.lt
     rintro (e | e | e)
     · omega
     · omega
     · exact e)))
    have H4:Hid (CM w0 G p m 17 (cliL { S with ro:=(k:Int),wk:=17 } m R) ks rs W4):= zak (HW3.out.join h4)
    have z4:=H4.out.lt
    clear h4 HW3 HOM HBR
    go_wp2_with fail
    refine (zfj p (1536+S.nd) (crowT tot a S.b k) _ _ _ _ (H4.out.blk.cell 1 rfl) (zgu _ _ _ _).symm (zfg HO4.out) (zgs _ _ _ _) (by omega)).mono ?_
    rintro e w6 ⟨As,ns,cs,ds,rfl,hO,hb⟩
    have HF:=zak (zfp (S:={ S with ro:=(k:Int),wk:=17 }) (R:=R) H4.out HE.out (fun _=>HBB.out) HN2.out (fun h=>absurd HD.out h) ⟨As,ns,cs,ds,rfl,hO,hb⟩)
    clear hO
    go_wp2_with fail
    rw[HP.out]
    exact HF.out
end
end
end Go.Proofs.Ythdbckbpldlkeaa
