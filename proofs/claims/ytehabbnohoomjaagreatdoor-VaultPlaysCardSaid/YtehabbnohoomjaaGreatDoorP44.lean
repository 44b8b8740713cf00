/- None -/
import Derived.Test.YtehabbnohoomjaaGreatDoorP42
import Derived.Test.YtehabbnohoomjaaGreatDoorP43
namespace Go.Proofs.YtehabbnohoomjaaGreatDoor
set_option linter.unusedVariables false
set_option linter.unusedSimpArgs false
set_option linter.unnecessarySimpa false
section
open Go.RowKit
set_option maxRecDepth 20000
set_option maxHeartbeats 8000000
theorem zy6 (q:FP) (S:FS) (w:World) (hD:FD w q S) (hoff:S.off=true):Calls Tryz.prog 41 #[.pointer (some ⟨q.p,0,none⟩)] w fun e w'=>e= .returned (.tuple #[.pointer none,.int .i64 7])∧ w=w':=by
 have HON:=zak (zhj q S w hD)
 rw[hoff,Bool.not_true] at HON
 clear hD hoff
 go_enter Tryz.func41,Tryz.ntmps41
 go_wp2_with fail
 refine HON.out.mono ?_
 rintro e w1 ⟨rfl,rfl⟩
 go_wp2_with fail
 go_ret2
 exact⟨rfl,rfl⟩
theorem zy7 (q:FP) (S:FS) (pd:Addr) (w:World) (hD:FD w q S) (hoff:S.off=true):Calls Tryz.prog 11 #[.pointer (some ⟨q.p,0,none⟩),.pointer (some pd)] w fun e w'=>e= .returned (.tuple #[.pointer none,.int .i64 7])∧ w=w':=by
 have HO:=zak (zy6 q S w hD hoff)
 clear hD hoff
 go_enter Tryz.func11,Tryz.ntmps11
 go_wp2_with fail
 refine HO.out.mono ?_
 rintro e w1 ⟨rfl,rfl⟩
 go_wp2_with fail
 go_ret2
 exact⟨rfl,rfl⟩
theorem zy8 (q:FP) (S:FS) (w:World) (hD:RF w q S) (hoff:S.off=true) :
 Calls Tryz.prog 111 #[.pointer (some ⟨q.p,0,none⟩)] w fun e w'=> ∃ r,e= .returned (.tuple #[.pointer (some ⟨r,0,none⟩),.int .i64 7])∧ Below w.heap.size w w':=by
 have hb0:=zbf (Below.refl w.heap.size w) (.cells #[.pointer (some ⟨q.p,0,none⟩),.int .i64 0,.int .u32 0,.slice none 0 0,.bool false,.int .i64 0,.bool true] 166)
 have HB:=zak hb0
 obtain⟨⟨-,-,-,f3,-⟩,-⟩:= (hD.below hb0).c
 rw[hoff] at f3
 clear hb0 hD hoff
 go_enter Tryz.func111,Tryz.ntmps111
 go_wp2_with fail
 go_ret2
 exact⟨_,rfl,HB.out⟩
theorem zy9 (q:FP) (p:Value) (en:Int) (w:World) (hen:en≠0) (hO:Calls Tryz.prog 111 #[.pointer (some ⟨q.p,0,none⟩)] w fun e w'=> ∃ r,e= .returned (.tuple #[.pointer (some r),.int .i64 en])∧ Below w.heap.size w w') :
 Calls Tryz.prog 69 #[.pointer (some ⟨q.p,0,none⟩),p] w fun e w'=> ∃ pr,e= .returned (.tuple #[.pointer (some ⟨pr,0,none⟩),.int .i64 en])∧ Below w.heap.size w w':=by
 have HO:=zak hO
 have hne:(en != 0)=true:=by simp[hen]
 clear hO hen
 go_enter Tryz.func69,Tryz.ntmps69
 go_wp2_with fail
 refine HO.out.mono ?_
 rintro e w1 ⟨r,rfl,hb1⟩
 have HB:=zak (zbf hb1 (.cells #[.pointer (some r),.slice none 0 0,.bool false,.bool false] 77))
 clear hb1
 go_wp2_with fail
 go_ret2
 exact⟨_,rfl,HB.out⟩
def ROpR (L:List Ent) (q:FP) (S:FS) (w:World) (e:Ending) (w':World):Prop:=
 ∃ pr r A c FX As ns cs dx,e= .returned (.tuple #[.pointer (some ⟨pr,0,none⟩),.int .i64 0])∧ RV w' pr r q S A c FX As ns cs dx (recX L (openJ S)).1 (recX L (openJ S)).2 false∧(∀ g,FX g→w.heap.size≤g∧g < w'.heap.size)∧ w.heap.size≤pr∧w.heap.size≤r∧Below w.heap.size w w'
theorem zza {L:List Ent} (hs:SortedE L) {V:List (List UInt8)} {Ft:Nat→Prop} {pt nt clt cvt:Nat} {Al Avt:Option Addr} {dt et:List (Option Addr×Nat)} (q:FP) (S:FS) (w:World) (hD:RF w q S) (hoff:S.off=false) (h3:3≤S.wear.length) (hDB:DB 112 w Ft pt Al nt clt Avt cvt L V dt et) (hnt:nt≤1000) :
 Calls Tryz.prog 69 #[.pointer (some ⟨q.p,0,none⟩),.pointer (some ⟨pt,0,none⟩)] w (ROpR L q S w):= by
 have HO:=zak (zjt q S w hD hoff h3)
 have HD:=zak hD
 have HOF:=zak hoff
 have HDB:=zak hDB
 have HKD:=zak (fun h:(newL (looksF S)).2=true=>zx1 h)
 obtain⟨R0,hR0⟩:∃ R0,R0=ROpR L q S w:=⟨_,rfl⟩
 rw[← hR0]
 have HR:=zak hR0
 obtain⟨X0,hX0⟩:∃ X0,X0=recX L (openJ S):= ⟨_,rfl⟩
 have HX:=zak hX0
 clear hD hoff h3 hR0 hDB hX0
 go_enter Tryz.func69,Tryz.ntmps69
 go_wp2_with fail
 refine HO.out.mono ?_
 rintro e w1 ⟨r,A,c,rfl,hJ,hO,hrl,hb⟩
 have k0:=zbm w1 77 #[.pointer (some ⟨r,0,none⟩),.slice none 0 0,.bool false,.bool false]
 have hba:=zbf (Below.refl w1.heap.size w1) (.cells #[.pointer (some ⟨r,0,none⟩),.slice none 0 0,.bool false,.bool false] 77)
 obtain⟨wa,hwa⟩:∃ W,W=w1.alloc (.cells #[.pointer (some ⟨r,0,none⟩),.slice none 0 0,.bool false,.bool false] 77):= ⟨_,rfl⟩
 have hsa:wa.heap.size=w1.heap.size+1:=by rw[hwa];simp
 rw[← hwa] at k0 hba
 have hJa:=hJ.below hba hJ.lt
 have HOa:=zak (hO.below hba)
 have hbwa:=zbd hba hb
 have hrlt:r < w1.heap.size:=hJ.lt
 have hz1:=hb.size
 have END:∀ (w':World) (As:Option Addr) (ns cs:Nat) (dx:List (Option Addr×Nat)) (XX:List SV) (odd:Bool),X0=(XX,odd)→ Blk w' w1.heap.size 77 #[.pointer (some ⟨r,0,none⟩),.slice As ns cs,.bool odd,.bool false]→ zcj (fun g=>g=w1.heap.size) wa w'→OwnSV w' (fun g=>wa.heap.size≤g∧g < w'.heap.size) As ns cs XX dx→
  R0 (.returned (.tuple #[.pointer (some ⟨w1.heap.size,0,none⟩),.int .i64 0])) w':=by
  intro w' As ns cs dx XX odd hx hB ho hrow
  rw[HR.out]
  have hz:=ho.size
  refine⟨w1.heap.size,r,A,c,fun g=>wa.heap.size≤g∧g < w'.heap.size,As,ns,cs,dx,rfl,?_,fun g hg=>⟨by omega,hg.2⟩,by omega,hrl,hbwa.trans (ho.below hbwa.size (fun i hi=>by omega))⟩
  rw[← HX.out,hx]
  refine⟨hB,⟨S,fun _=>rfl,?_⟩,(HD.out.below hbwa).only ho (fun g hg e=>?_),hrow,by omega,fun h=>?_,fun h=>?_,fun g hg=>⟨by omega,by omega,fun h=>?_,hg.2⟩⟩
  · rw[HOF.out];exact (ho.block r hJa.lt (by omega)).trans hJa
  · have:=HD.out.lt g hg;omega
  · have:=HD.out.lt _ h;omega
  · have:=HD.out.lt r h;omega
  · have:=HD.out.lt g h;omega
 have HEND:=zak END
 have HX0:Hid (X0=if (newL (looksF S)).2=true∧(recS S).1=1 then if (parseS (recS S).2.2).2≠0∨checkL L (parseS (recS S).2.2).1≠0 then ([],true) else ((parseS (recS S).2.2).1,false) else ([],false)):= zak (by
  rw[HX.out];unfold recX;rw[zxf];rfl)
 unfold rjS rjC at hJa
 obtain⟨hh,hhh⟩:∃ b,b=(newL (looksF S)).2:=⟨_,rfl⟩
 obtain⟨RJ,hRJ⟩:∃ x,x=recS S:=⟨_,rfl⟩
 rw[← hhh,← hRJ] at HKD HX0
 rw[← hhh,← hRJ] at hJa
 rw[← hRJ] at HOa
 obtain⟨kd,num,bs⟩:= RJ
 dsimp only at HKD HX0 hJa HOa
 have j1:=hJa.cell 1 (u:= .int .i64 kd) rfl
 have j3:=hJa.cell 3 (u:= .slice A bs.length c) rfl
 have j4:=hJa.cell 4 (u:= .bool hh) rfl
 rw[hwa] at j1 j3 j4
 have HK0:=zak k0
 have HBWA:=zak hbwa
 have HWA:=zak hwa
 have HSA:=zak hsa
 clear hJ hO hb hba END hRJ hhh hJa hbwa hsa hrl k0 HO hz1 hrlt hwa HX HR
 cases hh
 · have HX1:Hid (X0=([],false)):= zak (HX0.out.trans (if_neg (by simp)))
   clear HX0 HKD
   go_wp2_with fail
   rw[← HWA.out]
   exact HEND.out wa none 0 0 [] [] false HX1.out HK0.out (zcj.refl _ _) (zcq.nil _ _)
 · rcases HKD.out rfl with rfl | rfl
   · have HX1:Hid (X0=if (parseS bs).2≠0∨checkL L (parseS bs).1≠0 then ([],true) else ((parseS bs).1,false)):= zak (HX0.out.trans (if_pos ⟨rfl,rfl⟩))
     clear HX0 HKD
     go_wp2_with fail
     rw[← HWA.out]
     refine (zy5 A bs.length c bs wa rfl HOa.out.own.le HOa.out.sl).mono ?_
     rintro e w4 ⟨A4,n4,c4,X4,d4,er,rfl,hO4,hP4,hb4⟩
     rw[hP4] at HX1
     dsimp only at HX1
     have HO4:=zak hO4
     have HB4:=zak hb4
     have HK4:=zak (HK0.out.below hb4 HK0.out.lt)
     have kc:=HK4.out
     obtain⟨kc_c0,kc_c1,kc_c2,kc_c3⟩:= zbi kc
     have kc_f:=kc.frozen
     have HP4:=zak hP4
     clear hO4 hb4 hP4 j1 j3 j4
     by_cases he:er=0
     · subst he
       have hbf:=zwj (zwy HP4.out).1
       have HBF:=zak hbf
       have hn4:n4≤192:=by rw[HO4.out.hn];exact hbf.1
       have HN4:=zak hn4
       have HCK:=zak (zvx A4 n4 c4 X4 w4 (HDB.out.below (HBWA.out.trans (HB4.out.mono HBWA.out.size))) hnt HO4.out.hn (by omega) HO4.out.slV (fun v hv=>by have:=HBF.out.2 v hv;omega))
       clear hbf hn4
       go_wp2_with fail
       refine HCK.out.mono ?_
       rintro e w5 ⟨rfl,hb5⟩
       obtain⟨ck,hck⟩:∃ ck,ck=checkL L X4:=⟨_,rfl⟩
       rw[← hck] at HX1 ⊢
       have HO5:=zak ((zv1 HO4.out).below hb5)
       have HB5:=zak (zbd hb5 HB4.out)
       have HK5:=zak (HK4.out.below hb5 HK4.out.lt)
       have HZ:=zak hb5.size
       have kd5:=HK5.out
       clear kc_c0 kc_c1 kc_c2 kc_c3 kc_f
       obtain⟨kd5_c0,kd5_c1,kd5_c2,kd5_c3⟩:= zbi kd5
       have kd5_f:=kd5.frozen
       clear hb5 hck
       by_cases hc0:ck=0
       · subst hc0
         have HX2:Hid (X0=(X4,false)):= zak (HX1.out.trans (if_neg (by simp)))
         have hlk:=HSA.out
         have HF:Hid (R0 (.returned (.tuple #[.pointer (some ⟨w1.heap.size,0,none⟩),.int .i64 0])) (w5.setCell ⟨w1.heap.size,1,none⟩ (.slice A4 n4 c4))):= zak (HEND.out _ A4 n4 c4 d4 X4 false HX2.out (Blk.set_ HK5.out 1 (.slice A4 n4 c4)) (zcj.set (fun g=>g=w1.heap.size) (zcj.of_below HB5.out) rfl _) ((HO5.out.keep (fun g hg hlt=>(zcj.set (fun g=>g=w1.heap.size) (zcj.refl _ w5) (i:=1) rfl (.slice A4 n4 c4)).block g hlt (fun e=>by omega))).mono (fun g hlt hg=>⟨hg.1,hlt⟩)))
         clear hlk HX1 HX2
         go_wp2_with fail
         exact HF.out
       · have hcb:(ck != 0)=true:=by simp[hc0]
         have HX2:Hid (X0=([],true)):= zak (HX1.out.trans (if_pos (.inr hc0)))
         have HF:Hid (R0 (.returned (.tuple #[.pointer (some ⟨w1.heap.size,0,none⟩),.int .i64 0])) (w5.setCell ⟨w1.heap.size,2,none⟩ (.bool true))):= zak (HEND.out _ none 0 0 [] [] true HX2.out (Blk.set_ HK5.out 2 (.bool true)) (zcj.set (fun g=>g=w1.heap.size) (zcj.of_below HB5.out) rfl _) (zcq.nil _ _))
         clear HX1 HX2
         go_wp2_with fail
         exact HF.out
     · have hcb:(er != 0)=true:=by simp[he]
       have HX2:Hid (X0=([],true)):= zak (HX1.out.trans (if_pos (.inl he)))
       have HF:Hid (R0 (.returned (.tuple #[.pointer (some ⟨w1.heap.size,0,none⟩),.int .i64 0])) (w4.setCell ⟨w1.heap.size,2,none⟩ (.bool true))):= zak (HEND.out _ none 0 0 [] [] true HX2.out (Blk.set_ HK4.out 2 (.bool true)) (zcj.set (fun g=>g=w1.heap.size) (zcj.of_below HB4.out) rfl _) (zcq.nil _ _))
       clear HX1 HX2
       go_wp2_with fail
       exact HF.out
   · have HX1:Hid (X0=([],false)):= zak (HX0.out.trans (if_neg (by simp)))
     clear HX0 HKD
     go_wp2_with fail
     rw[← HWA.out]
     exact HEND.out wa none 0 0 [] [] false HX1.out HK0.out (zcj.refl _ _) (zcq.nil _ _)
end
section
open Go.RowKit
set_option maxRecDepth 20000
set_option maxHeartbeats 4000000
theorem zzb (q:FP) (n:Int) (m:Value) (w:World) (hn:n < 0):Calls Tryz.prog 28 #[.pointer (some ⟨q.p,0,none⟩),.int .i64 n,m] w fun e w'=>e= .returned (.int .i64 1)∧ w=w':=by
 go_enter Tryz.func28,Tryz.ntmps28
 go_wp2_with fail
 go_ret
 exact⟨rfl,rfl⟩
theorem zzc (q:FP) (n:Int) (m:Value) (w:World) (hn:n < 0):Calls Tryz.prog 74 #[.pointer (some ⟨q.p,0,none⟩),.int .i64 n,m] w fun e w'=>e= .returned (.int .i64 1)∧ w=w':=by
 go_enter Tryz.func74,Tryz.ntmps74
 go_wp2_with fail
 go_ret
 exact⟨rfl,rfl⟩
theorem zzd (q:FP) (S:FS) (n m:Nat) (w:World) (hD:RF w q S) (hn:n≤9223372036854775807) (hm:U32 m):Calls Tryz.prog 74 #[.pointer (some ⟨q.p,0,none⟩),.int .i64 (n:Nat),.int .u32 (m:Nat)] w fun e w'=>e= .returned (.int .i64 0)∧ RF w' q { S with ahead:=(n:Nat),mask:=m }∧ zcj (fun g=>g=q.p) w w':=by
 obtain⟨⟨-,-,-,-,c4,c5,-⟩,hfz⟩:= hD.c
 have f4:=hfz 4
 have f5:=hfz 5
 have HD:=zak hD
 have hn1:(-1:Int)≤ (n:Int):= by omega
 have hn2:(n:Int)≤ 9223372036854775807:=by omega
 have HF:Hid (FitF { S with ahead:=(n:Nat),mask:=m }):= zak ⟨hD.fit.len,hD.fit.wl,hD.fit.wl8,hm,hn1,hn2,hD.fit.m1,hD.fit.m2,hD.fit.w⟩
 clear hD hfz hn1 hn2 hn hm
 go_enter Tryz.func74,Tryz.ntmps74
 go_wp2_with fail
 go_ret
 exact⟨rfl,RF.reblk HD.out (zhe _ _ _ _) (zhz (zhz HD.out.blk 4 _) 5 _) rfl rfl HF.out,zhe _ _ _ _⟩
theorem zze (q:FP) (S:FS) (w:World) (hD:RF w q S):Calls Tryz.prog 75 #[.pointer (some ⟨q.p,0,none⟩)] w fun e w'=>e= .returned (.tuple #[])∧ RF w' q { S with off:=false }∧ zcj (fun g=>g=q.p) w w':=by
 obtain⟨⟨-,-,-,c3,-⟩,hfz⟩:= hD.c
 have f3:=hfz 3
 have HD:=zak hD
 have HF:Hid (FitF { S with off:=false }):= zak ⟨hD.fit.len,hD.fit.wl,hD.fit.wl8,hD.fit.mask,hD.fit.ah1,hD.fit.ah2,hD.fit.m1,hD.fit.m2,hD.fit.w⟩
 clear hD hfz
 go_enter Tryz.func75,Tryz.ntmps75
 go_wp2_with fail
 go_end0
 exact⟨rfl,RF.reblk HD.out (zhd _ _) (zhz HD.out.blk 3 _) rfl rfl HF.out,zhd _ _⟩
end
section
open Go.RowKit
set_option maxRecDepth 20000
set_option maxHeartbeats 4000000
theorem zzf (A:Option Addr) (n c:Nat) (w:World) (hno:n=0∨n % 1024≠0∨8192 < n) (hb:n≤100000) (m:Int) (hm:1≤m) :
 Calls Tryz.prog 39 #[.slice A n c,.int .i64 m] w fun e w'=> ∃ p,e= .returned (.tuple #[.pointer p,.bool false])∧ Below w.heap.size w w':=by
 have hb0:=zbf (Below.refl w.heap.size w) (.cells #[.slice none 0 0,.slice none 0 0,.int .i64 0,.bool false,.int .i64 (-1),.int .u32 0,.int .i64 0] 74)
 have HB:=zak hb0
 clear hb0
 by_cases h0:n=0
 · have e1:((n:Int) == 0)=true:=by simp;omega
   clear hno h0
   go_enter Tryz.func39,Tryz.ntmps39
   go_wp2_with fail
   go_ret2
   exact⟨_,rfl,HB.out⟩
 have e1:((n:Int) == 0)=false:=by simp;omega
 obtain⟨y,hy⟩:∃ y,y=n % 1024:=⟨_,rfl⟩
 have e2:((n:Int) % 1024)=(y:Int):= by omega
 rw[← hy] at hno
 clear hy
 by_cases h1:y=0
 · have hbig:(8192:Int) < (n:Int):= by omega
   subst h1
   clear hno h0
   go_enter Tryz.func39,Tryz.ntmps39
   go_wp2_with fail
   go_ret2
   exact⟨_,rfl,HB.out⟩
 · have e3:((y:Int) == 0)=false:=by simp;omega
   have e4:((y:Int) != 0)=true:=by simp;omega
   clear hno h0 h1
   go_enter Tryz.func39,Tryz.ntmps39
   go_wp2_with fail
   go_ret2
   exact⟨_,rfl,HB.out⟩
theorem zzg (A:Option Addr) (n c:Nat) (l:List UInt8) (k:Nat) (w:World) (hn:n=l.length) (hk:n=1024 * k) (h1:1≤k) (h8:k≤8) (m:Int) (hm:1≤m) (hm2:m≤9223372036854775807) (hs:Sl w A (l.map bv)) :
 Calls Tryz.prog 39 #[.slice A n c,.int .i64 m] w fun e w'=> ∃ q:FP,e= .returned (.tuple #[.pointer (some ⟨q.p,0,none⟩),.bool true])∧ RF w' q (ofF l k m)∧ (∀ g,q.F g→w.heap.size≤g)∧ Below w.heap.size w w':=by
 have HN:=zak hn
 have HS:=zak hs
 have HF:=zak (zhu (l:=l) (m:=m) (by omega) h1 h8 hm hm2)
 have e1:((n:Int) / 1024)=((k:Nat):Int):= by omega
 have e2:((n:Int) % 1024)=0:=by omega
 have hn0:0 < n:=by omega
 have hnb:n≤8192:=by omega
 have hne:((n:Int) == 0)=false:=by simp;omega
 have q0:=zbm w 74 #[.slice none 0 0,.slice none 0 0,.int .i64 m,.bool false,.int .i64 (-1),.int .u32 0,.int .i64 0]
 have hb0:=zbf (Below.refl w.heap.size w) (.cells #[.slice none 0 0,.slice none 0 0,.int .i64 m,.bool false,.int .i64 (-1),.int .u32 0,.int .i64 0] 74)
 have HQ:=zak q0
 have HB0:=zak hb0
 obtain⟨q0_c0,q0_c1,q0_c2,q0_c3,q0_c4,q0_c5,q0_c6⟩:= cel7 q0
 have q0_f:=q0.frozen
 clear hn hs hk q0 hb0
 go_enter Tryz.func39,Tryz.ntmps39
 go_wp2_with (at_builtin;refine zce _ rfl _ _ rfl (w.heap.size+1) none 0 0 [] rfl (zcd.nil _ _) A n c l rfl HN.out (HS.out.alloc _) (by omega) (by simp) n (by omega) ?_;intro A3 c3 w3 hO3 _ _ hb3;have q3f:=(HQ.out.below hb3 (by omega)).frozen 0;have q3c:=(HQ.out.below hb3 (by omega)).cell 0 (u:= .slice none 0 0) rfl;have HH3:=zak (And.intro hO3 hb3);clear hO3 hb3)
 obtain⟨hO3,hb3⟩:= HH3.out
 rw[List.nil_append] at hO3
 obtain⟨gb,rfl,hg1,hg2⟩:= hO3.own.at_ hn0
 have HO3:=zak hO3
 have HB3:=zak (zbp (HB0.out.trans (hb3.mono (by omega))) (p:=⟨w.heap.size,0,none⟩) (Nat.le_refl _) (.slice (some ⟨gb,0,none⟩) n c3))
 have HQ3:=zak (zhz (l:= [.slice none 0 0,.slice none 0 0,.int .i64 m,.bool false,.int .i64 (-1),.int .u32 0,.int .i64 0]) (HQ.out.below hb3 (by omega)) 0 (.slice (some ⟨gb,0,none⟩) n c3))
 have HO4:Hid (zcd (w3.setCell ⟨w.heap.size,0,none⟩ (.slice (some ⟨gb,0,none⟩) n c3)) (w.heap.size+1) (some ⟨gb,0,none⟩) n c3 l):= zak (hO3.set_ (by simp) _)
 clear hO3 hb3 HH3 q3f q3c q0_c0 q0_c1 q0_c2 q0_c3 q0_c4 q0_c5 q0_c6 q0_f HO3
 simp only[List.set_cons_zero] at HQ3
 go_loopw [7] (fun i wr=> ∃ j A4 c4,j≤k∧i= .int .i64 (j:Nat)∧ Hid (Blk wr w.heap.size 74 #[.slice (some ⟨gb,0,none⟩) n c3,.slice A4 j c4,.int .i64 m,.bool false,.int .i64 (-1),.int .u32 0,.int .i64 0])∧
  Hid (zcd wr (w.heap.size+1) (some ⟨gb,0,none⟩) n c3 l)∧ Hid (Own wr (w.heap.size+1) 3 1 A4 j c4 ((List.replicate j 0).map iv))∧ Hid (Below w.heap.size w wr)) (fun i _=>k - (intOf i).toNat)
 case atStart=>exact⟨0,none,0,by omega,rfl,HQ3,HO4,zak (Own.nil _ _ _ _),HB3⟩
 case round=>
  obtain⟨j,A4,c4,hj,rfl,HBr,HOr,HWr,HBB⟩:= hrel
  have qr:=HBr.out
  have zr:=qr.lt
  obtain⟨qr_c0,qr_c1,qr_c2,qr_c3,qr_c4,qr_c5,qr_c6⟩:= cel7 qr
  have qr_f:=qr.frozen
  by_cases hlt:j < k
  · have HZ:Hid (((List.replicate (j+1) 0).map iv)=((List.replicate j 0).map iv) ++ [.int .i64 0]):= zak (by rw[List.replicate_succ',List.map_append];rfl)
    clear qr
    go_wp2_with (at_builtin;refine zi5 _ rfl _ _ rfl (w.heap.size+1) A4 j c4 _ rfl (HWr.out.alloc _) _ 1 0 rfl (Sl.one _ _ _) (by omega) (by simp;omega) ?_;intro A5 c5 w5 hO5 hg5 hr5 hb5;have q5f:=((HBr.out.alloc (.cells #[.int .i64 0] 3)).below hb5 (by omega)).frozen 1;have q5c:=((HBr.out.alloc (.cells #[.int .i64 0] 3)).below hb5 (by omega)).cell 1 (u:= .slice A4 j c4) rfl;have HH5:=zak (And.intro hO5 (And.intro hg5 hb5));clear hO5 hg5 hb5)
    obtain⟨hO5,hg5,hb5⟩:= HH5.out
    have hB5:=zhz (l:= [.slice (some ⟨gb,0,none⟩) n c3,.slice A4 j c4,.int .i64 m,.bool false,.int .i64 (-1),.int .u32 0,.int .i64 0]) ((HBr.out.alloc (.cells #[.int .i64 0] 3)).below hb5 (by omega)) 1 (.slice A5 (j+1) c5)
    have hob:zcd w5 (w.heap.size+1) (some ⟨gb,0,none⟩) n c3 l:=⟨HOr.out.hn,(HOr.out.own.alloc (.cells #[.int .i64 0] 3)).grown hg5 (zcl (HOr.out.own.alloc (.cells #[.int .i64 0] 3)) (HWr.out.alloc (.cells #[.int .i64 0] 3)) (by decide))⟩
    have HB5:=zak hB5
    have HOB:=zak (hob.set_ (p:=⟨w.heap.size,1,none⟩) (by simp) (.slice A5 (j+1) c5))
    have HW5:Hid (Own (w5.setCell ⟨w.heap.size,1,none⟩ (.slice A5 (j+1) c5)) (w.heap.size+1) 3 1 A5 (j+1) c5 ((List.replicate (j+1) 0).map iv)):= zak (by rw[HZ.out];exact hO5.set_ (by simp) _)
    have HBN:=zak (zbp ((zbf HBB.out (.cells #[.int .i64 0] 3)).trans (hb5.mono (by omega))) (p:=⟨w.heap.size,1,none⟩) (Nat.le_refl _) (.slice A5 (j+1) c5))
    go_roundw
    case rel=>exact⟨j+1,A5,c5,by omega,by go_num,HB5,HOB,HW5,HBN⟩
    case measure=>simp[intOf];omega
  · obtain rfl:j=k:=by omega
    clear qr
    obtain⟨gw,rfl,hgw,_⟩:= HWr.out.at_ h1
    go_wp2_with fail
    go_ret2
    have hn:=HN.out
    subst hn
    refine⟨⟨w.heap.size,gb,gw,c3,c4⟩,rfl,rmkF HBr.out (HOr.out.own.mono (Nat.zero_le _)) (HWr.out.mono (Nat.zero_le _)) HF.out,?_,HBB.out⟩
    rintro g (rfl | rfl | rfl)
    · exact Nat.le_refl _
    · exact Nat.le_trans (Nat.le_succ _) hg1
    · exact Nat.le_trans (Nat.le_succ _) hgw
theorem zzh (A:Option Addr) (n c:Nat) (w:World) (hno:n=0∨n % 1024≠0∨8192 < n) (hb:n≤100000) (m:Int) (hm:1≤m) :
 Calls Tryz.prog 38 #[.slice A n c,.int .i64 m] w fun e w'=>e= .returned (.pointer none)∧ Below w.heap.size w w':=by
 obtain⟨k,hk⟩:∃ k,k=n / 1024:=⟨_,rfl⟩
 have e1:((n:Int) / 1024)=((k:Nat):Int):= by omega
 have e4:IntKind.i64.wrap ((n:Int) / 1024)=((k:Nat):Int):= by rw[IntKind.wrap_i64];omega
 have hk8:k≤100:=by omega
 by_cases h0:k < 1
 · have h1:(k:Int) < 1:=by omega
   clear hno hk h0
   go_enter Tryz.func38,Tryz.ntmps38
   go_wp2_with fail
   all_goals
    go_ret
    exact⟨rfl,bl⟩
 · have h1:decide ((k:Int) < 1)=false:=by simp;omega
   by_cases h2:8 < k
   · have h3:decide ((8:Int) < (k:Int))=true:=by simp;omega
     clear hno hk h0 h2
     go_enter Tryz.func38,Tryz.ntmps38
     go_wp2_with fail
     all_goals
      go_ret
      exact⟨rfl,bl⟩
   · have h3:decide ((8:Int) < (k:Int))=false:=by simp;omega
     have h4:((k:Int) * 1024 == (n:Int))=false:=by simp;omega
     have h5:((k:Int) * 1024 != (n:Int))=true:=by simp;omega
     have h6:decide ((8:Int) < (k:Int))=false:=h3
     clear hno hk h0 h2
     go_enter Tryz.func38,Tryz.ntmps38
     go_wp2_with fail
     all_goals
      go_ret
      exact⟨rfl,bl⟩
theorem zzi (k:Nat) (m:Int) (w:World) (h1:1≤k) (h8:k≤8) (hm:1≤m) (hm2:m≤9223372036854775807) :
 Calls Tryz.prog 40 #[.int .i64 (k:Nat),.int .i64 m] w fun e w'=> ∃ q:FP,e= .returned (.tuple #[.pointer (some ⟨q.p,0,none⟩),.bool true])∧ RF w' q (ofF (List.replicate (k * 1024) 255) k m)∧ (∀ g,q.F g→w.heap.size≤g)∧ Below w.heap.size w w':=by
 obtain⟨n,hn⟩:∃ n,n=k * 1024:=⟨_,rfl⟩
 have e3:((k:Int) * 1024)=((n:Nat):Int):= by omega
 have hnb:n≤8192:=by omega
 have HN:=zak hn
 rw[← hn]
 clear hn
 go_enter Tryz.func40,Tryz.ntmps40
 go_wp2_with fail
 go_loopw [6,7] (fun v i wr=> ∃ j A c,j≤n∧i= .int .i64 (j:Nat)∧ v= .slice A j c∧Hid (zcd wr w.heap.size A j c (List.replicate j 255))∧ Hid (Below w.heap.size w wr)) (fun _ i _=>n - (intOf i).toNat)
 case atStart=>exact⟨0,none,0,by omega,rfl,rfl,zak (zcd.nil _ _),zak (Below.refl _ _)⟩
 case round=>
  obtain⟨j,A,c,hj,rfl,rfl,HO,HB⟩:= hrel
  by_cases hlt:j < n
  · have HZ:Hid (List.replicate (j+1) (255:UInt8)=List.replicate j 255 ++ [255]):= zak (by rw[List.replicate_succ'])
    go_wp2_with (at_builtin;refine zce _ rfl _ _ rfl w.heap.size A j c (List.replicate j 255) rfl (HO.out.alloc _) _ 1 _ [255] rfl rfl (Sl.one _ _ _) (by omega) (by have:=HB.out.size;simp;omega) (j+1) (by omega) ?_;intro A3 c3 w3 hO3 _ _ hb3)
    have HO3:Hid (zcd w3 w.heap.size A3 (j+1) c3 (List.replicate (j+1) 255)):= zak (by rw[HZ.out];exact hO3)
    have HB3:=zak ((zbf HB.out (.cells #[.int .u8 255] 5)).trans hb3)
    clear hO3 hb3
    go_roundw
    case rel=>exact⟨j+1,A3,c3,by omega,by go_num,rfl,HO3,HB3⟩
    case measure=>simp[intOf];omega
  · obtain rfl:j=n:=by omega
    go_wp2_with fail
    refine (zzg A j c (List.replicate j 255) k _ (by simp) (by have:=HN.out;omega) h1 h8 m hm hm2 HO.out.sl).mono ?_
    rintro e w2 ⟨q,rfl,hF,hq,hb⟩
    have HX:=zak (And.intro hF (And.intro hq hb))
    clear hF hq hb
    go_wp2_with fail
    go_ret2
    exact⟨q,rfl,HX.out.1,fun g hg=>Nat.le_trans HB.out.size (HX.out.2.1 g hg),zbd HX.out.2.2 HB.out⟩
end
section
open Go.RowKit
set_option maxRecDepth 20000
set_option maxHeartbeats 8000000
structure SOp where
 kind:Int
 ix:Int
 sub:Int
 n:Int
 w:Nat
 b:List UInt8
def SlS (w:World) (A:Option Addr) (L:List SOp):Prop:= ∀ j o,L[j]? =some o→ ∃ b off Aj cj,A=some ⟨b,off,none⟩∧ (w.cell? ⟨b,off+j * 6,none⟩=some (.int .i64 o.kind)∧ w.cell? ⟨b,off+j * 6+1,none⟩=some (.int .i64 o.ix)∧
 w.cell? ⟨b,off+j * 6+2,none⟩=some (.int .i64 o.sub)∧ w.cell? ⟨b,off+j * 6+3,none⟩=some (.int .i64 o.n)∧ w.cell? ⟨b,off+j * 6+4,none⟩=some (.int .u32 (o.w:Nat))∧ w.cell? ⟨b,off+j * 6+5,none⟩=some (.slice Aj o.b.length cj))∧ o.b.length≤cj∧Sl w Aj (o.b.map bv)
theorem SlS.below {w w':World} {A:Option Addr} {L:List SOp} (h:SlS w A L) (hb:Below w.heap.size w w'):SlS w' A L:=by
 intro j o ho
 obtain⟨b,off,Aj,cj,hA,⟨h0,h1,h2,h3,h4,h5⟩,h6,h7⟩:= h j o ho
 have k:∀ p v,w.cell? p=some v→w'.cell? p=some v:=fun p v hp=>(hb.cell (zal hp)).trans hp
 exact⟨b,off,Aj,cj,hA,⟨k _ _ h0,k _ _ h1,k _ _ h2,k _ _ h3,k _ _ h4,k _ _ h5⟩,h6,h7.below hb⟩
def lightS (o:SOp):Bool:=decide (o.b.length≤1000)
def lightC (L:List Ent) (nf:Nat) (S:List SOp):Bool:=lightL L && decide (nf≤9000) && (S.take 30).all lightS
theorem zzj {S:List SOp} {k:Nat} {o:SOp} (h:S[k]? =some o):S.take (k+1)=S.take k ++ [o]:= by
 obtain⟨hk,rfl⟩:= List.getElem?_eq_some_iff.1 h
 exact List.take_succ_eq_append_getElem hk
theorem zzk (A:Option Addr) (n c:Nat) (L:List Ent) (Af:Option Addr) (nf cf:Nat) (mo:Int) (As:Option Addr) (ns cs:Nat) (S:List SOp) (w:World) (hn:n=L.length) (hL:SlE w A L) (hs:ns=S.length) (hS:SlS w As S) :
 Calls Tryz.prog 7 #[.agg #[.slice A n c,.slice Af nf cf,.int .i64 mo,.slice As ns cs]] w fun e w'=>e= .returned (.bool (lightC L nf S))∧ Below w.heap.size w w':=by
 have q0:=zbm w 26 #[.slice A n c,.slice Af nf cf,.int .i64 mo,.slice As ns cs]
 have hb0:=zbf (Below.refl w.heap.size w) (.cells #[.slice A n c,.slice Af nf cf,.int .i64 mo,.slice As ns cs] 26)
 have HLG:=zak (zt9 A n c L _ hn (hL.below hb0))
 have HS:=zak (hS.below hb0)
 have HN:=zak hs
 have HB:=zak hb0
 have HQ:=zak q0
 obtain⟨q0_c0,q0_c1,q0_c2,q0_c3⟩:= zbi q0
 have q0_f:=q0.frozen
 clear q0 hb0 hn hL hs hS
 cases hl:lightL L
 · have HR:Hid (lightC L nf S=false):= zak (by simp[lightC,hl])
   rw[hl] at HLG
   clear hl
   go_enter Tryz.func7,Tryz.ntmps7
   go_wp2_with fail
   refine HLG.out.mono ?_
   rintro e w1 ⟨rfl,rfl⟩
   go_wp2_with fail
   go_ret
   exact⟨za1 HR.out.symm,HB.out⟩
 rw[hl] at HLG
 by_cases hf:9000 < nf
 · have HR:Hid (lightC L nf S=false):= zak (by simp[lightC];intro _ h;omega)
   clear hl
   go_enter Tryz.func7,Tryz.ntmps7
   go_wp2_with fail
   refine HLG.out.mono ?_
   rintro e w1 ⟨rfl,rfl⟩
   go_wp2_with fail
   go_ret
   exact⟨za1 HR.out.symm,HB.out⟩
 have HLL:=zak hl
 clear hl
 go_enter Tryz.func7,Tryz.ntmps7
 go_wp2_with fail
 refine HLG.out.mono ?_
 rintro e w1 ⟨rfl,rfl⟩
 go_wp2_with fail
 go_loopw [3] (fun i wr=> ∃ k,k≤ns∧k≤30∧i= .int .i64 (k:Nat)∧ Hid (∀ o ∈ S.take k,lightS o=true)∧ wr=w.alloc (.cells #[.slice A n c,.slice Af nf cf,.int .i64 mo,.slice As ns cs] 26)) (fun i _=>30 - (intOf i).toNat)
 case atStart=>exact⟨0,by omega,by omega,rfl,zak (by simp),rfl⟩
 case round=>
  obtain⟨k,hk,hk2,rfl,HA,rfl⟩:= hrel
  by_cases hlt:k < ns
  · by_cases hlt2:k < 30
    · obtain⟨o,ho⟩:∃ o,S[k]? =some o:=⟨S[k]'(by rw[← HN.out];exact hlt),List.getElem?_eq_getElem _⟩
      obtain⟨b,off,Aj,cj,rfl,⟨c0,c1,c2,c3,c4,c5⟩,hcj,hsj⟩:= HS.out k o ho
      obtain⟨i1,i2,i3⟩:= zbr hlt
      have HT:=zak (zzj ho)
      have HM:=zak (List.mem_of_getElem? ho)
      clear c0 c1 c2 c3 c4 hcj hsj
      obtain⟨m,hm⟩:∃ m,m=o.b.length:=⟨_,rfl⟩
      rw[← hm] at c5
      have HMM:=zak hm
      have HO:=zak ho
      clear hm ho
      by_cases h1:1000 < m
      · have HR:Hid (lightC L nf S=false):= zak (by
         have:(S.take 30).all lightS=false:=by
          rw[List.all_eq_false]
          refine⟨o,?_,by simp[lightS,← HMM.out];omega⟩
          have h9:(S.take 30)[k]? =some o:=by rw[List.getElem?_take];rw[if_pos hlt2];exact HO.out
          exact List.mem_of_getElem? h9
         simp[lightC,this])
        go_wp2_with fail
        go_ret
        exact⟨za1 HR.out.symm,HB.out⟩
      · have HA2:Hid (∀ u ∈ S.take (k+1),lightS u=true):= zak (by
         rw[HT.out]
         intro u hu
         rcases List.mem_append.1 hu with h | h
         · exact HA.out u h
         · obtain rfl:=List.mem_singleton.1 h
           simp[lightS,← HMM.out];omega)
        go_wp2_with fail
        go_roundw
        case rel=>exact⟨k+1,by omega,by omega,by go_num,HA2,trivial⟩
        case measure=>simp[intOf];omega
    · obtain rfl:k=30:=by omega
      have HR:Hid (lightC L nf S=true):= zak (by
       have:(S.take 30).all lightS=true:=by rw[List.all_eq_true];exact HA.out
       simp[lightC,this,HLL.out];omega)
      go_wp2_with fail
      go_ret
      exact⟨za1 HR.out.symm,HB.out⟩
  · have HR:Hid (lightC L nf S=true):= zak (by
     have:(S.take 30).all lightS=true:=by
      rw[List.all_eq_true]
      intro u hu
      refine HA.out u ?_
      rw[List.take_of_length_le (by rw[← HN.out];omega)]
      exact List.mem_of_mem_take hu
     simp[lightC,this,HLL.out];omega)
    go_wp2_with fail
    go_ret
    exact⟨za1 HR.out.symm,HB.out⟩
structure Beg (w:World) (lo m1 m2 pw pd gl n cl cv:Nat) (Av:Option Addr) (L:List Ent) (V:List (List UInt8)) (ds es:List (Option Addr×Nat)) (Fd:Nat→Prop) (q:FP) (S:FS) (pt pr:Nat):Prop where
 blk:Blk w pw 44 #[.pointer (some ⟨pd,0,none⟩),.pointer (some ⟨pt,0,none⟩),.pointer (some ⟨q.p,0,none⟩),.pointer (some ⟨pr,0,none⟩),.pointer none,.pointer none]
 db:DB 102 w Fd pd (some ⟨gl,0,none⟩) n cl Av cv L V ds es
 hn:n=L.length
 fd:FD w q S
 inD:∀ g,Fd g→lo≤g∧g < w.heap.size∧ ¬ q.F g∧g≠pw
 inQ:∀ g,q.F g→lo≤g∧g < w.heap.size∧g≠pw
 lo_pw:lo≤pw
def BegR (L:List Ent) (w:World) (e:Ending) (w':World):Prop:=
 ∃ v ok,e= .returned (.tuple #[v,.bool ok])∧ (ok=false→v= .pointer none)∧ (ok=true→SortedE L∧(∀ E ∈ L,rightE E=0)∧ (∃ at_,NewP L 0 at_)∧
  ∃ pw pd gl n cl cv Av ds es Fd q pt pr,v= .pointer (some ⟨pw,0,none⟩)∧ (∃ m1 m2,Beg w' w.heap.size m1 m2 pw pd gl n cl cv Av L (L.map Ent.df) ds es Fd q (newF 3 50) pt pr))∧ Below w.heap.size w w'
end
end Go.Proofs.YtehabbnohoomjaaGreatDoor
