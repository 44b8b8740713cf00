/- None -/
import Derived.Test.YtehabbnohoomjaaGreatDoorP10
namespace Go.Proofs.YtehabbnohoomjaaGreatDoor
set_option linter.unusedVariables false
set_option linter.unusedSimpArgs false
set_option linter.unnecessarySimpa false
section
open Go.RowKit
set_option maxRecDepth 20000
set_option maxHeartbeats 2000000
theorem zhz {w:World} {g:Nat} {t:TypeId} {l:List Value} (h:Blk w g t l.toArray) (i:Nat) (v:Value):Blk (w.setCell ⟨g,i,none⟩ v) g t (l.set i v).toArray:=by
 have:=h.set_ i v
 rwa [List.setIfInBounds_toArray] at this
theorem zh0 {q:FP} {w w':World} {G:Nat→Prop} (h:zcj G w w') (hG:∀ g,G g→q.F g):zcj q.F w w':=h.mono (fun g _ hg=>hG g hg)
def doE (S:FS) (i:Nat):FS×Int:=
 if S.ahead=0 then ({ S with b:=put S.b (1024 * i) (List.replicate (S.mask % 1025) 255),ahead:= -1,off:=true },7)
 else ({ S with b:=put S.b (1024 * i) (List.replicate 1024 255),ahead:=decA S.ahead,ops:=S.ops+1 },0)
def DoR (q:FP) (r:FS×Int) (w:World) (e:Ending) (w':World):Prop:=e= .returned (.int .i64 r.2)∧ FD w' q r.1∧zcj q.F w w'
theorem zh1 (q:FP) (S:FS) (i:Nat) (w:World) (hD:FD w q S) (hi:i < S.wear.length) (hops:S.ops < 4611686018427387904) :
 Calls Tryz.prog 192 #[.pointer (some ⟨q.p,0,none⟩),.int .i64 (i:Nat),.func (.func 193) #[.pointer (some ⟨q.p,0,none⟩)] #[],.func (.func 194) #[.pointer (some ⟨q.p,0,none⟩)] #[]] w (DoR q (doE S i) w):= by
 have HD:=zak hD
 have HI:=zak hi
 obtain⟨⟨c0,c1,c2,c3,c4,c5,c6⟩,hfz⟩:= hD.c
 have f4:=hfz 4
 have f6:=hfz 6
 have ha2:=hD.fit.ah2
 have ha1:=hD.fit.ah1
 obtain⟨ah,hah⟩:∃ a,a=S.ahead:=⟨_,rfl⟩
 rw[← hah] at c4 ha1 ha2
 have HF:=zak hD.fit
 clear hD hi hfz
 by_cases h0:ah=0
 · subst h0
   have HE:Hid (doE S i=({ S with b:=put S.b (1024 * i) (List.replicate (S.mask % 1025) 255),ahead:= -1,off:=true },7)):= zak (by unfold doE;rw[if_pos hah.symm])
   rw[HE.out]
   clear hah
   go_enter Tryz.func192,Tryz.ntmps192
   go_wp2_with fail
   refine (zhr q S i w HD.out HI.out).mono ?_
   rintro e w1 ⟨rfl,h1,h2⟩
   obtain⟨⟨d0,d1,d2,d3,d4,d5,d6⟩,hfz⟩:= h1.c
   have g4:=hfz 4
   have g3:=hfz 3
   have HH:=zak (And.intro h1 h2)
   clear h1 h2 hfz c0 c1 c2 c3 c4 c5 c6
   go_wp2_with fail
   go_ret
   refine⟨rfl,?_,?_⟩
   · exact FD.reblk HH.out.1 (zhe _ _ _ _) (zhz (zhz HH.out.1.blk 4 _) 3 _) rfl rfl (zho HH.out.1.fit rfl rfl rfl rfl (.inr (.inr rfl)))
   · exact zcj.set _ (zcj.set _ (zh0 HH.out.2 (fun g e=> .inr (.inl e))) (.inl rfl) _) (.inl rfl) _
 · have HE:Hid (doE S i=({ S with b:=put S.b (1024 * i) (List.replicate 1024 255),ahead:=decA ah,ops:=S.ops+1 },0)):= zak (by unfold doE;rw[if_neg (by rw[← hah];exact h0),hah])
   rw[HE.out]
   have HA:=zak hah
   clear hah
   by_cases hp:0 < ah
   · have HDA:=zak (show decA ah=ah - 1 by unfold decA;rw[if_pos hp])
     rw[HDA.out]
     go_enter Tryz.func192,Tryz.ntmps192
     go_wp2_with fail
     have h1:FD ((w.setCell ⟨q.p,4,none⟩ (.int .i64 (ah - 1))).setCell ⟨q.p,6,none⟩ (.int .i64 ((S.ops:Int)+1))) q { S with ahead:=ah - 1,ops:=S.ops+1 }:= FD.reblk HD.out (zhe _ _ _ _) (zhz (zhz HD.out.blk 4 _) 6 _) rfl rfl (zho HF.out rfl rfl rfl rfl (.inr (.inl (by rw[← HA.out,HDA.out]))))
     have HW:Hid (zcj (fun g=>g=q.p) w ((w.setCell ⟨q.p,4,none⟩ (.int .i64 (ah - 1))).setCell ⟨q.p,6,none⟩ (.int .i64 ((S.ops:Int)+1)))):= zak (zhe _ _ _ _)
     have HC:=zak (zhq q _ i _ h1 HI.out)
     clear h1 c0 c1 c2 c3 c4 c5 c6
     go_wp2_with fail
     refine HC.out.mono ?_
     rintro e w1 ⟨rfl,h1,h2⟩
     have HH:=zak (And.intro h1 h2)
     clear h1 h2
     go_wp2_with fail
     go_ret
     exact⟨rfl,HH.out.1,(zh0 HW.out (fun g e=> .inl e)).trans (zh0 HH.out.2 (fun g e=> .inr (.inl e))) (fun _ _ h=>h)⟩
   · have HDA:=zak (show decA ah=ah by unfold decA;rw[if_neg hp])
     rw[HDA.out]
     go_enter Tryz.func192,Tryz.ntmps192
     go_wp2_with fail
     have h1:FD (w.setCell ⟨q.p,6,none⟩ (.int .i64 ((S.ops:Int)+1))) q { S with ahead:=ah,ops:=S.ops+1 }:= by
      have:=HA.out
      subst this
      exact FD.reblk HD.out (zhd _ _) (zhz HD.out.blk 6 _) rfl rfl (zho HF.out rfl rfl rfl rfl (.inl rfl))
     have HW:Hid (zcj (fun g=>g=q.p) w (w.setCell ⟨q.p,6,none⟩ (.int .i64 ((S.ops:Int)+1)))):= zak (zhd _ _)
     have HC:=zak (zhq q _ i _ h1 HI.out)
     clear h1 c0 c1 c2 c3 c4 c5 c6
     go_wp2_with fail
     refine HC.out.mono ?_
     rintro e w1 ⟨rfl,h1,h2⟩
     have HH:=zak (And.intro h1 h2)
     clear h1 h2
     go_wp2_with fail
     go_ret
     exact⟨rfl,HH.out.1,(zh0 HW.out (fun g e=> .inl e)).trans (zh0 HH.out.2 (fun g e=> .inr (.inl e))) (fun _ _ h=>h)⟩
def eraseA (S:FS) (i:Nat):FS×Int:=if S.most≤(S.wear.getD i 0:Nat) then (S,10) else eraseF S i
theorem zh2 (S:FS) (i:Nat):eraseF S i=doE { S with wear:=S.wear.set i (S.wear.getD i 0+1) } i:=by
 unfold eraseF doE
 simp only[]
theorem zh3 (q:FP) (S:FS) (i:Nat) (w:World) (hD:FD w q S) (hi:i < S.wear.length) (hoff:S.off=false) (hops:S.ops < 4611686018427387904) :
 Calls Tryz.prog 166 #[.pointer (some ⟨q.p,0,none⟩),.int .i64 (i:Nat)] w (DoR q (eraseA S i) w):= by
 have HD:=zak hD
 have HI:=zak hi
 obtain⟨⟨c0,c1,c2,c3,c4,c5,c6⟩,hfz⟩:= hD.c
 rw[hoff] at c3
 obtain⟨cw,fw⟩:= hD.wcell hi
 obtain⟨x,hx⟩:∃ x,x=S.wear.getD i 0:=⟨_,rfl⟩
 obtain⟨most,hmo⟩:∃ m,m=S.most:=⟨_,rfl⟩
 obtain⟨nw,hnw⟩:∃ m,m=S.wear.length:=⟨_,rfl⟩
 have m2:=hD.fit.m2
 have h8:=hD.fit.wl8
 rw[← hnw] at c1 hi h8
 rw[← hx] at cw
 rw[← hmo] at c2 m2
 have i1:(0:Int)≤ (i:Int):= by omega
 have i2:(i:Int) < (nw:Int):= by omega
 have zp:=HD.out.blk.lt
 have zw:=HD.out.gw_lt
 have HX:=zak hx
 have HM:=zak hmo
 clear hD hfz hoff hx hmo hnw
 by_cases hle:most≤(x:Int)
 · have HE:Hid (eraseA S i=(S,10)):= zak (by unfold eraseA;rw[if_pos (by rw[← HX.out,← HM.out];exact hle)])
   rw[HE.out]
   go_enter Tryz.func166,Tryz.ntmps166
   go_wp2_with fail
   go_quiet (fail)
   go_wp2_with fail
   go_ret
   exact⟨rfl,HD.out.below (zb8 (Below.refl _ _) _),zcj.of_below (zb8 (Below.refl _ _) _)⟩
 · have HE:Hid (eraseA S i=doE { S with wear:=S.wear.set i (x+1) } i):= zak (by unfold eraseA;rw[if_neg (by rw[← HX.out,← HM.out];exact hle),zh2,HX.out])
   rw[HE.out]
   have hlt:(x:Int) < most:=by omega
   have HLT:=zak hlt
   go_enter Tryz.func166,Tryz.ntmps166
   go_wp2_with fail
   go_quiet (fail)
   go_wp2_with fail
   have h1:=fun nq=>(HD.out.below (zb8 (Below.refl w.heap.size w) nq)).setW i (x+1) (by rw[← HM.out];have:=HLT.out;omega)
   rw[show (((x+1:Nat):Int))=(x:Int)+1 by omega] at h1
   have HW:Hid (∀ nq,zcj (fun g=>g=q.gw) w ((w.drewN nq).setCell ⟨q.gw,i,none⟩ (.int .i64 ((x:Int)+1)))):= zak (fun nq=>zcj.set (fun g=>g=q.gw) (zcj.of_below (zb8 (Below.refl _ _) _)) rfl _)
   have HC:=zak (fun nq=>zh1 q _ i _ (h1 nq) (by simp only[List.length_set];exact HI.out) hops)
   clear h1 c0 c1 c2 c3 c4 c5 c6 cw fw
   go_wp2_with fail
   refine (HC.out _).mono ?_
   rintro e w1 ⟨rfl,h1,h2⟩
   have HH:=zak (And.intro h1 h2)
   clear h1 h2
   go_wp2_with fail
   go_ret
   exact⟨rfl,HH.out.1,(zh0 (HW.out _) (fun g e=> .inr (.inr e))).trans HH.out.2 (fun _ _ h=>h)⟩
end
section
open Go.RowKit
set_option maxRecDepth 20000
set_option maxHeartbeats 2000000
theorem zh4 (x y:UInt8):bits BinOp.and IntKind.u8 (x.toNat:Int) (y.toNat:Int)=(((x &&& y).toNat:Nat):Int):= by
 rw[u8_and_nat _ _ x.toNat_lt y.toNat_lt,UInt8.toNat_and]
theorem zh5 (x y:UInt8):bits BinOp.or IntKind.u8 (x.toNat:Int) (y.toNat:Int)=(((x ||| y).toNat:Nat):Int):= by
 rw[u8_or_nat _ _ x.toNat_lt y.toNat_lt,UInt8.toNat_or]
theorem zh6 (q:FP) (S:FS) (j:Nat) (x:UInt8) (w:World) (hD:FD w q S) (hj:j < S.b.length) :
 Calls Tryz.prog 195 #[.agg #[.pointer (some ⟨q.p,0,none⟩),.int .u8 (x.toNat:Nat)],.int .i64 (j:Nat)] w fun e w'=>e= .returned (.tuple #[])∧ FD w' q { S with b:=S.b.set j (S.b.getD j 0 &&& x) }∧ zcj q.F w w':=by
 have HD:=zak hD
 obtain⟨⟨c0,-⟩,-⟩:= hD.c
 obtain⟨cb,fb⟩:= hD.byte hj
 obtain⟨y,hy⟩:∃ y,y=S.b.getD j 0:=⟨_,rfl⟩
 rw[← hy] at cb ⊢
 obtain⟨n,hn⟩:∃ n,n=S.b.length:=⟨_,rfl⟩
 rw[← hn] at c0 hj
 obtain⟨i1,i2,i3⟩:= zbr hj
 have hand:=zh4 y x
 have zp:=hD.blk.lt
 have zb:=hD.gb_lt
 clear hD hn hy
 have q0:=zbm w 265 #[.pointer (some ⟨q.p,0,none⟩),.int .u8 (x.toNat:Nat)]
 have hb1:=zbf (Below.refl w.heap.size w) (.cells #[.pointer (some ⟨q.p,0,none⟩),.int .u8 (x.toNat:Nat)] 265)
 have d0:=(hb1.cell (p:=⟨q.p,0,none⟩) zp).trans c0
 have db:=(hb1.cell (p:=⟨q.gb,j,none⟩) zb).trans cb
 have df:=(hb1.frozen (p:=⟨q.gb,j,none⟩) zb).trans fb
 have HB1:=zak hb1
 obtain⟨q0_c0,q0_c1⟩:= zbg q0
 have q0_f:=q0.frozen
 clear hb1 c0 cb fb q0
 go_enter Tryz.func195,Tryz.ntmps195
 go_wp2_with fail
 refine zaj (fun w'=>w'.cell? ⟨w.heap.size,0,none⟩=some (.pointer (some ⟨q.p,0,none⟩))∧ w'.cell? ⟨w.heap.size,1,none⟩=some (.int .u8 (x.toNat:Nat))∧ w'.cell? ⟨q.p,0,none⟩=some (.slice (some ⟨q.gb,0,none⟩) n q.cb)∧ w'.cell? ⟨q.gb,j,none⟩=some (.int .u8 (y.toNat:Nat))) [0,1,2,3,4,5,6,7,8,9,10,11] (by kernel_rfl) ?hS1 (fun hHeld=>?rest1)
 case hS1=>((try dsimp only);exact⟨q0_c0,q0_c1,d0,db⟩)
 case' rest1=>skip
 refine tkT 0 ?_
 try simp only[PqL,Act.put]
 refine tkT 1 ?_
 try simp only[PqL,Act.put]
 refine tkT 2 ?_
 try simp only[PqL,Act.put]
 refine tkT 3 ?_
 try simp only[PqL,Act.put]
 refine tkT 4 ?_
 try simp only[PqL,Act.put]
 refine tkT 5 ?_
 try simp only[PqL,Act.put]
 refine tkT 6 ?_
 try simp only[PqL,Act.put]
 refine tkT 7 ?_
 try simp only[PqL,Act.put]
 refine tkT 8 ?_
 try simp only[PqL,Act.put]
 refine tkT 9 ?_
 try simp only[PqL,Act.put]
 refine tkT 10 ?_
 try simp only[PqL,Act.put]
 refine tkT 11 ?_
 try simp only[PqL,Act.put]
 refine zah (i:=12) (o:=_) rfl (by kernel_rfl) (by kernel_rfl) (fun K hK=>?_)
 go_simp
 refine hK.out _ _ ?rest15
 case' rest15=>(clear hK K;try simp only[PqL,Act.put])
 refine zai (by kernel_rfl) ?_ _
 repeat (clear hHeld)
 go_wp2_with fail
 go_end0
 refine⟨rfl,?_,?_⟩
 · have hs:=HD.out.setB j (y &&& x)
   rw[UInt8.toNat_and] at hs
   exact hs.below (zb9 (zbf (Below.refl _ _) _))
 · exact (zcj.set q.F (zcj.refl _ _) (Or.inr (Or.inl rfl)) _).step (zb9 (zbf (Below.refl _ _) _))
theorem zh7:∀ n:Fin 256,255 ^^^ n.val=255 - n.val:=by decide +kernel
theorem zh8 (m:Nat) (hm:m≤4294967295):bits BinOp.xor IntKind.u8 IntKind.u8.max (IntKind.u8.wrap (m:Int))=(((~~~ (UInt8.ofNat m)).toNat:Nat):Int):= by
 have hsz:UInt8.size=256:=rfl
 have h1:IntKind.u8.wrap (m:Int)=((m % 256:Nat):Int):= by rw[IntKind.wrap_u8];omega
 have h2:IntKind.u8.max=((255:Nat):Int):= rfl
 have h3:=zh7 ⟨m % 256,by omega⟩
 simp only[] at h3
 rw[h1,h2,u8_xor_nat _ _ (by omega) (by omega),h3,UInt8.toNat_not,UInt8.toNat_ofNat',hsz]
theorem zh9 (q:FP) (S:FS) (j:Nat) (x:UInt8) (w:World) (hD:FD w q S) (hj:j < S.b.length) :
 Calls Tryz.prog 196 #[.agg #[.pointer (some ⟨q.p,0,none⟩),.int .u8 (x.toNat:Nat)],.int .i64 (j:Nat)] w fun e w'=>e= .returned (.tuple #[])∧ FD w' q { S with b:=S.b.set j (tornB (S.b.getD j 0) x S.mask) }∧ zcj q.F w w':=by
 have HD:=zak hD
 obtain⟨⟨c0,-,-,-,-,c5,-⟩,-⟩:= hD.c
 obtain⟨cb,fb⟩:= hD.byte hj
 have hm:S.mask≤4294967295:=by have:=hD.fit.mask;unfold U32 at this;omega
 obtain⟨m,hmm⟩:∃ m,m=S.mask:=⟨_,rfl⟩
 rw[← hmm] at c5 hm ⊢
 obtain⟨y,hy⟩:∃ y,y=S.b.getD j 0:=⟨_,rfl⟩
 rw[← hy] at cb ⊢
 obtain⟨n,hn⟩:∃ n,n=S.b.length:=⟨_,rfl⟩
 rw[← hn] at c0 hj
 obtain⟨i1,i2,i3⟩:= zbr hj
 have hnot:=zh8 m hm
 have hor:=zh5 x (~~~ (UInt8.ofNat m))
 have hand:=zh4 y (x ||| ~~~ (UInt8.ofNat m))
 have HNOT:=zak hnot
 have HOR:=zak hor
 have HAND:=zak hand
 clear hnot hor hand
 have zp:=hD.blk.lt
 have zb:=hD.gb_lt
 have HMM:=zak hmm
 clear hD hn hy hmm
 have q0:=zbm w 265 #[.pointer (some ⟨q.p,0,none⟩),.int .u8 (x.toNat:Nat)]
 have hb1:=zbf (Below.refl w.heap.size w) (.cells #[.pointer (some ⟨q.p,0,none⟩),.int .u8 (x.toNat:Nat)] 265)
 have d0:=(hb1.cell (p:=⟨q.p,0,none⟩) zp).trans c0
 have d5:=(hb1.cell (p:=⟨q.p,5,none⟩) zp).trans c5
 have db:=(hb1.cell (p:=⟨q.gb,j,none⟩) zb).trans cb
 have df:=(hb1.frozen (p:=⟨q.gb,j,none⟩) zb).trans fb
 have HB1:=zak hb1
 obtain⟨q0_c0,q0_c1⟩:= zbg q0
 have q0_f:=q0.frozen
 clear hb1 c0 cb fb q0 c5
 go_enter Tryz.func196,Tryz.ntmps196
 go_wp2_with fail
 refine zaj (fun w'=>w'.cell? ⟨w.heap.size,0,none⟩=some (.pointer (some ⟨q.p,0,none⟩))∧ w'.cell? ⟨w.heap.size,1,none⟩=some (.int .u8 (x.toNat:Nat))∧ w'.cell? ⟨q.p,0,none⟩=some (.slice (some ⟨q.gb,0,none⟩) n q.cb)∧ w'.cell? ⟨q.p,5,none⟩=some (.int .u32 (m:Nat))∧ w'.cell? ⟨q.gb,j,none⟩=some (.int .u8 (y.toNat:Nat))) [0,1,2,3,4,5,6,7,8,9,10,11,12,13,14,15,16,17,18,19] (by kernel_rfl) ?hS17 (fun hHeld=>?rest17)
 case hS17=>((try dsimp only);exact⟨q0_c0,q0_c1,d0,d5,db⟩)
 case' rest17=>skip
 refine tkT 0 ?_
 try simp only[PqL,Act.put]
 refine tkT 1 ?_
 try simp only[PqL,Act.put]
 refine tkT 2 ?_
 try simp only[PqL,Act.put]
 refine tkT 3 ?_
 try simp only[PqL,Act.put]
 refine tkT 4 ?_
 try simp only[PqL,Act.put]
 refine tkT 5 ?_
 try simp only[PqL,Act.put]
 refine tkT 6 ?_
 try simp only[PqL,Act.put]
 refine tkT 7 ?_
 try simp only[PqL,Act.put]
 refine tkT 8 ?_
 try simp only[PqL,Act.put]
 refine tkT 9 ?_
 try simp only[PqL,Act.put]
 refine tkT 10 ?_
 try simp only[PqL,Act.put]
 refine tkT 11 ?_
 try simp only[PqL,Act.put]
 refine tkT 12 ?_
 try simp only[PqL,Act.put]
 refine tkT 13 ?_
 try simp only[PqL,Act.put]
 refine tkT 14 ?_
 try simp only[PqL,Act.put]
 refine tkT 15 ?_
 try simp only[PqL,Act.put]
 refine tkT 16 ?_
 try simp only[PqL,Act.put]
 refine tkT 17 ?_
 try simp only[PqL,Act.put]
 refine tkT 18 ?_
 try simp only[PqL,Act.put]
 refine tkT 19 ?_
 try simp only[PqL,Act.put]
 refine zah (i:=20) (o:=_) rfl (by kernel_rfl) (by kernel_rfl) (fun K hK=>?_)
 go_simp
 refine hK.out _ _ ?rest39
 case' rest39=>(clear hK K;try simp only[PqL,Act.put])
 refine zai (by kernel_rfl) ?_ _
 repeat (clear hHeld)
 go_wp2_with fail
 go_end0
 refine⟨rfl,?_,?_⟩
 · have hs:=HD.out.setB j (tornB y x m)
   have hv:bits BinOp.and IntKind.u8 (y.toNat:Int) (bits BinOp.or IntKind.u8 (x.toNat:Int) (bits BinOp.xor IntKind.u8 IntKind.u8.max (IntKind.u8.wrap (m:Int))))=(((tornB y x m).toNat:Nat):Int):= by
    rw[HNOT.out,HOR.out,HAND.out];rfl
   rw[hv]
   have hm2:=HMM.out
   subst hm2
   exact hs.below (zb9 (zbf (Below.refl _ _) _))
 · exact (zcj.set q.F (zcj.refl _ _) (Or.inr (Or.inl rfl)) _).step (zb9 (zbf (Below.refl _ _) _))
def doP (S:FS) (j:Nat) (x:UInt8):FS×Int:=
 if S.ahead=0 then ({ S with b:=S.b.set j (tornB (S.b.getD j 0) x S.mask),ahead:= -1,off:=true },7)
 else ({ S with b:=S.b.set j (S.b.getD j 0 &&& x),ahead:=decA S.ahead,ops:=S.ops+1 },0)
theorem zia (q:FP) (S:FS) (j:Nat) (x:UInt8) (w:World) (hD:FD w q S) (hj:j < S.b.length) (hops:S.ops < 4611686018427387904) :
 Calls Tryz.prog 192 #[.pointer (some ⟨q.p,0,none⟩),.int .i64 (j:Nat),.func (.func 195) #[.agg #[.pointer (some ⟨q.p,0,none⟩),.int .u8 (x.toNat:Nat)]] #[],.func (.func 196) #[.agg #[.pointer (some ⟨q.p,0,none⟩),.int .u8 (x.toNat:Nat)]] #[]] w (DoR q (doP S j x) w):= by
 have HD:=zak hD
 have HI:=zak hj
 obtain⟨⟨c0,c1,c2,c3,c4,c5,c6⟩,hfz⟩:= hD.c
 have f4:=hfz 4
 have f6:=hfz 6
 have ha2:=hD.fit.ah2
 have ha1:=hD.fit.ah1
 obtain⟨ah,hah⟩:∃ a,a=S.ahead:=⟨_,rfl⟩
 rw[← hah] at c4 ha1 ha2
 have HF:=zak hD.fit
 clear hD hj hfz
 by_cases h0:ah=0
 · subst h0
   have HE:Hid (doP S j x=({ S with b:=S.b.set j (tornB (S.b.getD j 0) x S.mask),ahead:= -1,off:=true },7)):= zak (by unfold doP;rw[if_pos hah.symm])
   rw[HE.out]
   clear hah
   go_enter Tryz.func192,Tryz.ntmps192
   go_wp2_with fail
   refine (zh9 q S j x w HD.out HI.out).mono ?_
   rintro e w1 ⟨rfl,h1,h2⟩
   obtain⟨⟨d0,d1,d2,d3,d4,d5,d6⟩,hfz⟩:= h1.c
   have g4:=hfz 4
   have g3:=hfz 3
   have HH:=zak (And.intro h1 h2)
   clear h1 h2 hfz c0 c1 c2 c3 c4 c5 c6
   go_wp2_with fail
   go_ret
   refine⟨rfl,?_,?_⟩
   · exact FD.reblk HH.out.1 (zhe _ _ _ _) (zhz (zhz HH.out.1.blk 4 _) 3 _) rfl rfl (zho HH.out.1.fit rfl rfl rfl rfl (.inr (.inr rfl)))
   · exact zcj.set _ (zcj.set _ HH.out.2 (.inl rfl) _) (.inl rfl) _
 · have HE:Hid (doP S j x=({ S with b:=S.b.set j (S.b.getD j 0 &&& x),ahead:=decA ah,ops:=S.ops+1 },0)):= zak (by unfold doP;rw[if_neg (by rw[← hah];exact h0),hah])
   rw[HE.out]
   have HA:=zak hah
   clear hah
   by_cases hp:0 < ah
   · have HDA:=zak (show decA ah=ah - 1 by unfold decA;rw[if_pos hp])
     rw[HDA.out]
     go_enter Tryz.func192,Tryz.ntmps192
     go_wp2_with fail
     have h1:FD ((w.setCell ⟨q.p,4,none⟩ (.int .i64 (ah - 1))).setCell ⟨q.p,6,none⟩ (.int .i64 ((S.ops:Int)+1))) q { S with ahead:=ah - 1,ops:=S.ops+1 }:= FD.reblk HD.out (zhe _ _ _ _) (zhz (zhz HD.out.blk 4 _) 6 _) rfl rfl (zho HF.out rfl rfl rfl rfl (.inr (.inl (by rw[← HA.out,HDA.out]))))
     have HW:Hid (zcj (fun g=>g=q.p) w ((w.setCell ⟨q.p,4,none⟩ (.int .i64 (ah - 1))).setCell ⟨q.p,6,none⟩ (.int .i64 ((S.ops:Int)+1)))):= zak (zhe _ _ _ _)
     have HC:=zak (zh6 q _ j x _ h1 HI.out)
     clear h1 c0 c1 c2 c3 c4 c5 c6
     go_wp2_with fail
     refine HC.out.mono ?_
     rintro e w1 ⟨rfl,h1,h2⟩
     have HH:=zak (And.intro h1 h2)
     clear h1 h2
     go_wp2_with fail
     go_ret
     exact⟨rfl,HH.out.1,(zh0 HW.out (fun g e=> .inl e)).trans HH.out.2 (fun _ _ h=>h)⟩
   · have HDA:=zak (show decA ah=ah by unfold decA;rw[if_neg hp])
     rw[HDA.out]
     go_enter Tryz.func192,Tryz.ntmps192
     go_wp2_with fail
     have h1:FD (w.setCell ⟨q.p,6,none⟩ (.int .i64 ((S.ops:Int)+1))) q { S with ahead:=ah,ops:=S.ops+1 }:= by
      have:=HA.out
      subst this
      exact FD.reblk HD.out (zhd _ _) (zhz HD.out.blk 6 _) rfl rfl (zho HF.out rfl rfl rfl rfl (.inl rfl))
     have HW:Hid (zcj (fun g=>g=q.p) w (w.setCell ⟨q.p,6,none⟩ (.int .i64 ((S.ops:Int)+1)))):= zak (zhd _ _)
     have HC:=zak (zh6 q _ j x _ h1 HI.out)
     clear h1 c0 c1 c2 c3 c4 c5 c6
     go_wp2_with fail
     refine HC.out.mono ?_
     rintro e w1 ⟨rfl,h1,h2⟩
     have HH:=zak (And.intro h1 h2)
     clear h1 h2
     go_wp2_with fail
     go_ret
     exact⟨rfl,HH.out.1,(zh0 HW.out (fun g e=> .inl e)).trans HH.out.2 (fun _ _ h=>h)⟩
def roomE (S:FS) (k n:Int):Int:=if S.off=true then 7 else if k < 0∨n < 0∨(S.b.length:Int) < k∨(S.b.length:Int) - k < n then 9 else 0
theorem zib (q:FP) (S:FS) (k n:Int) (w:World) (hD:FD w q S) (hk: -4611686018427387904≤k) (hk2:k≤4611686018427387904) :
 Calls Tryz.prog 147 #[.pointer (some ⟨q.p,0,none⟩),.int .i64 k,.int .i64 n] w fun e w'=>e= .returned (.int .i64 (roomE S k n))∧ w=w':=by
 obtain⟨⟨c0,c1,c2,c3,c4,c5,c6⟩,-⟩:= hD.c
 have hl:S.b.length≤8192:=by have:=hD.fit.len;have:=hD.fit.wl8;omega
 obtain⟨N,hN⟩:∃ n,n=S.b.length:=⟨_,rfl⟩
 obtain⟨off,ho⟩:∃ o,o=S.off:=⟨_,rfl⟩
 rw[← hN] at c0 hl
 rw[← ho] at c3
 have HE:Hid (roomE S k n=if off=true then 7 else if k < 0∨n < 0∨(N:Int) < k∨(N:Int) - k < n then 9 else 0):= zak (by unfold roomE;rw[hN,ho])
 rw[HE.out]
 clear hD hN ho c1 c2 c4 c5 c6
 cases off
 · by_cases h1:k < 0
   · go_enter Tryz.func147,Tryz.ntmps147
     go_wp2_with fail
     go_ret
     exact⟨za0 (by simp[h1]),rfl⟩
   · by_cases h2:n < 0
     · go_enter Tryz.func147,Tryz.ntmps147
       go_wp2_with fail
       go_ret
       exact⟨za0 (by simp[h2]),rfl⟩
     · by_cases h3:(N:Int) < k
       · go_enter Tryz.func147,Tryz.ntmps147
         go_wp2_with fail
         go_ret
         exact⟨za0 (by simp[h3]),rfl⟩
       · by_cases h4:(N:Int) - k < n
         · go_enter Tryz.func147,Tryz.ntmps147
           go_wp2_with fail
           go_ret
           exact⟨za0 (by simp[h4]),rfl⟩
         · go_enter Tryz.func147,Tryz.ntmps147
           go_wp2_with fail
           go_ret
           exact⟨za0 (by simp[h1,h2,h3,h4]),rfl⟩
 · go_enter Tryz.func147,Tryz.ntmps147
   go_wp2_with fail
   go_ret
   exact⟨za0 (by simp),rfl⟩
end
section
open Go.RowKit
set_option maxRecDepth 20000
set_option maxHeartbeats 4000000
theorem zic (S:FS) (k:Nat) (x:UInt8) (bs:List UInt8):progF S k (x :: bs)=if S.ahead=0 then doP S k x else progF (doP S k x).1 (k+1) bs:=by
 rw[progF]
 unfold doP
 split<;>rfl
theorem zid (S:FS) (k:Nat) (x:UInt8):(doP S k x).1.b.length=S.b.length∧(doP S k x).1.ops≤S.ops+1:=by
 unfold doP
 split<;>simp
theorem zie (S:FS) (k:Nat) (x:UInt8):(S.ahead=0→(doP S k x).2=7)∧ (S.ahead≠0→(doP S k x).2=0):= by
 unfold doP
 constructor
 · intro h;rw[if_pos h]
 · intro h;rw[if_neg h]
theorem zif {S:FS} {k n:Nat} (hoff:S.off=false) (h:k+n≤S.b.length):roomE S k n=0:=by
 unfold roomE
 rw[hoff,if_neg (by decide),if_neg (by omega)]
theorem zig (q:FP) (S:FS) (k:Nat) (A:Option Addr) (n c:Nat) (l:List UInt8) (w:World) (hD:FD w q S) (hn:n=l.length) (hoff:S.off=false) (hfit:k+n≤S.b.length) (hsrc:∀ W,zcj q.F w W→Sl W A (l.map bv)) (hops:S.ops+n < 4611686018427387904) :
 Calls Tryz.prog 167 #[.pointer (some ⟨q.p,0,none⟩),.int .i64 (k:Nat),.slice A n c] w (DoR q (progF S k l) w):= by
 have HD:=zak hD
 have h8:=hD.fit.wl8
 have hL:=hD.fit.len
 have hk8:k+n≤8192:=by omega
 have HFIT:=zak hfit
 have HSRC:=zak hsrc
 have HN:=zak hn
 have HOPS:=zak hops
 have HR:=zak (zib q S k n w hD (by omega) (by omega))
 rw[zif hoff hfit] at HR
 obtain⟨R,hR⟩:∃ R,R=progF S k l:=⟨_,rfl⟩
 have HRR:=zak hR
 rw[← hR]
 clear hD h8 hL hfit hsrc hn hops hR hoff
 go_enter Tryz.func167,Tryz.ntmps167
 go_wp2_with fail
 refine HR.out.mono ?_
 rintro e w1 ⟨rfl,rfl⟩
 go_wp2_with fail
 go_loopw [8,9,10,11,22] (fun _ _ _ _ i wr=> ∃ j S',j≤n∧i= .int .i64 (j:Nat)∧ Hid (FD wr q S')∧ Hid (zcj q.F w wr)∧ Hid (R=progF S' (k+j) (l.drop j)∧ S'.ops≤S.ops+j∧S'.b.length=S.b.length)) (fun _ _ _ _ i _=>n - (intOf i).toNat)
 case atStart=>exact⟨0,S,by omega,rfl,HD,zak (zcj.refl _ _),zak ⟨by rw[List.drop_zero];exact HRR.out,Nat.le_refl _,rfl⟩⟩
 case round=>
  obtain⟨j,S',hj,rfl,HDr,HOr,HP⟩:= hrel
  by_cases hlt:j < n
  · obtain⟨x,hx⟩:∃ x,x=l[j]'(by rw[← HN.out];exact hlt):= ⟨_,rfl⟩
    obtain⟨b,off,hA,cx⟩:= (HSRC.out wr HOr.out).byte_ (j:=j) (by rw[← HN.out];exact hlt)
    rw[← hx] at cx
    subst hA
    have HX:=zak (show l.drop j=x :: l.drop (j+1) by rw[hx];exact List.drop_eq_getElem_cons _)
    obtain⟨i1,i2,i3⟩:= zbr hlt
    have zb:=zal cx
    simp only[] at zb
    have q0:=zbm wr 265 #[.pointer (some ⟨q.p,0,none⟩),.int .u8 (x.toNat:Nat)]
    have hb1:=zbf (Below.refl wr.heap.size wr) (.cells #[.pointer (some ⟨q.p,0,none⟩),.int .u8 (x.toNat:Nat)] 265)
    have HB1:=zak hb1
    have HC:=zak (zia q S' (k+j) x _ (HDr.out.below hb1) (by rw[HP.out.2.2];have:=HFIT.out;omega) (by have:=HP.out.2.1;have:=HOPS.out;omega))
    obtain⟨D,hD⟩:∃ D,D=doP S' (k+j) x:=⟨_,rfl⟩
    rw[← hD] at HC
    obtain⟨D1,D2⟩:= D
    have HDD:=zak hD
    clear hx hD hb1
    obtain⟨q0_c0,q0_c1⟩:= zbg q0
    have q0_f:=q0.frozen
    clear q0
    by_cases h0:S'.ahead=0
    · have h7:D2=7:=by have:=(zie S' (k+j) x).1 h0;rw[← HDD.out] at this;exact this
      subst h7
      have HRE:Hid (R=(D1,7)):= zak (by rw[HP.out.1,HX.out,zic,if_pos h0,← HDD.out])
      clear h0
      go_wp2_with fail
      refine HC.out.mono ?_
      rintro e w2 ⟨rfl,h1,h2⟩
      have HH:=zak (And.intro h1 h2)
      clear h1 h2
      go_wp2_with fail
      go_ret
      exact (⟨by rw[HRE.out],by rw[HRE.out];exact HH.out.1,(HOr.out.step HB1.out).trans HH.out.2 (fun _ _ h=>h)⟩:DoR q R w _ _)
    · have h7:D2=0:=by have:=(zie S' (k+j) x).2 h0;rw[← HDD.out] at this;exact this
      subst h7
      have HRE:Hid (R=progF D1 (k+(j+1)) (l.drop (j+1))):= zak (by rw[HP.out.1,HX.out,zic,if_neg h0,← HDD.out];rfl)
      have HL1:Hid (D1.ops≤S.ops+(j+1)∧ D1.b.length=S.b.length):= zak (by
       have h1:=zid S' (k+j) x
       rw[← HDD.out] at h1
       simp only[] at h1
       have:=HP.out.2
       omega)
      clear h0
      go_wp2_with fail
      refine HC.out.mono ?_
      rintro e w2 ⟨rfl,h1,h2⟩
      have HH:=zak (And.intro h1 h2)
      clear h1 h2
      go_wp2_with fail
      have HO2:=zak ((HOr.out.step HB1.out).trans HH.out.2 (fun _ _ h=>h))
      have HD2:=zak HH.out.1
      go_roundw
      case rel=>exact⟨j+1,D1,by omega,by go_num,HD2,HO2,zak ⟨HRE.out,HL1.out⟩⟩
      case measure=>simp[intOf];omega
  · have hjn:j=n:=by omega
    have HRE:Hid (R=(S',0)):= zak (by rw[HP.out.1,List.drop_eq_nil_of_le (by rw[hjn,HN.out];exact Nat.le_refl _),progF])
    go_wp2_with fail
    go_ret
    exact (⟨by rw[HRE.out],by rw[HRE.out];exact HDr.out,HOr.out⟩:DoR q R w _ _)
theorem zih (q:FP) (S:FS) (k n:Nat) (w:World) (hD:FD w q S) (hoff:S.off=false) (hfit:k+n≤S.b.length) :
 Calls Tryz.prog 120 #[.pointer (some ⟨q.p,0,none⟩),.int .i64 (k:Nat),.int .i64 (n:Nat)] w fun e w'=> ∃ A c,e= .returned (.tuple #[.slice A n c,.int .i64 0])∧ zcd w' w.heap.size A n c ((S.b.drop k).take n)∧ Below w.heap.size w w':=by
 have h8:=hD.fit.wl8
 have hL:=hD.fit.len
 have hk8:k+n≤8192:=by omega
 have HR:=zak (zib q S k n w hD (by omega) (by omega))
 rw[zif hoff hfit] at HR
 obtain⟨⟨c0,-⟩,-⟩:= hD.c
 have hcb:=hD.bs.le
 have hsl:Sl w (cutA (some ⟨q.gb,0,none⟩) q.cb k 1) (((S.b.drop k).take n).map bv):= by
  have h1:=(hD.bs.sl.cut1 (k:=k) (c:=q.cb) (by rw[List.length_map];exact hcb)).take n
  rw[← List.map_drop,← List.map_take] at h1
  exact h1
 have hln:n=((S.b.drop k).take n).length:=by simp;omega
 obtain⟨L,hLL⟩:∃ L,L=(S.b.drop k).take n:=⟨_,rfl⟩
 rw[← hLL] at hsl hln ⊢
 obtain⟨N,hN⟩:∃ N,N=S.b.length:=⟨_,rfl⟩
 rw[← hN] at c0 hfit hcb
 have hcut:=zci (some ⟨q.gb,0,none⟩) N q.cb k (k+n) (k:Nat) ((k:Int)+(n:Int)) .i64 .i64 rfl (by omega) (by omega) (by omega) w
 rw[show k+n - k=n by omega] at hcut
 have HS:=zak hsl
 have HLN:=zak hln
 clear hD h8 hL hoff hLL hN hsl hln
 go_enter Tryz.func120,Tryz.ntmps120
 go_wp2_with fail
 refine HR.out.mono ?_
 rintro e w1 ⟨rfl,rfl⟩
 go_wp2_with (at_builtin;refine zce _ rfl _ _ rfl w.heap.size none 0 0 [] rfl (zcd.nil _ _) (cutA (some ⟨q.gb,0,none⟩) q.cb k 1) n (q.cb - k) L (by rfl) HLN.out HS.out (by omega) (Nat.le_refl _) n (by omega) ?_;intro A3 c3 w3 hown3 _ _ hb3)
 go_ret2
 exact⟨_,_,rfl,by simpa using hown3,hb3⟩
end
end Go.Proofs.YtehabbnohoomjaaGreatDoor
