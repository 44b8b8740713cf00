/- None -/
import Derived.Test.YtkkpjbjmhaecjaaGreatT34
namespace Go.Proofs.YtkkpjbjmhaecjaaGreat
set_option linter.all false
set_option maxRecDepth 20000
set_option maxHeartbeats 2000000
section
open Go.RowKit
def headB (k:Int) (c:Nat):Bool:=
 if k=1 then decide (c=128) else if k=2 then decide (32≤c) && decide (c < 48) else if k=3∨k=15 then decide (c < 32) else if k=4 then decide (c=64) else if k=5 then decide (c=96) || decide (c=112)
 else if k=6∨k=19 then decide (c=192) || decide (c=194) || decide (c=196) || decide (c=198) else if k=7∨k=20 then decide (193≤c) && decide (c≤221) && decide (c % 4=1)
 else if k=8∨k=16 then decide (c=160) || decide (c=164) else if k=9 then decide (c=163) else if k=10∨k=17 then decide (c=162) else if k=11∨k=18 then decide (c=161) else if k=12 then decide (c=96)
 else if k=13 then decide (c=32) || decide (c=48) else if k=14 then decide (64≤c) && decide (c < 80) else true
def GL (M:Ms):Prop:=guessM M.kind (laidB M)=M∧headB M.kind (byt (laidB M) 0)=true
theorem zqy:∀n:Nat,n≤127→(UInt8.ofNat (n ||| 128)).toNat % 128=n∧128≤(UInt8.ofNat (n ||| 128)).toNat∧(UInt8.ofNat n).toNat % 128=n∧ ¬ 128≤(UInt8.ofNat n).toNat:=by decide +kernel
def gw1 (n:Nat):Nat:=(UInt8.ofNat n).toNat
def gw2 (n:Nat):Nat:=leN [UInt8.ofNat n,UInt8.ofNat (n / 256)]
def gw4 (n:Nat):Nat:=leN [UInt8.ofNat n,UInt8.ofNat (n / 256),UInt8.ofNat (n / 256 / 256),UInt8.ofNat (n / 256 / 256 / 256)]
theorem b1w {x:Nat}(h:x≤255):gw1 x=x:=b1N x h
theorem b2w {x:Nat}(h:x≤65535):gw2 x=x:=b2N x h
theorem b4w {x:Nat}(h:x≤4294967295):gw4 x=x:=b4N x h
theorem gmk {M:Ms}(R:Ms)(h:R=M)(e:guessM M.kind (laidB M)=R:=by kernel_rfl)(e2:headB M.kind (byt (laidB M) 0)=true:=by kernel_rfl):GL M:=⟨e.trans h,e2⟩
theorem gl1 (ix sub code:Nat)(h_ix:ix≤65535)(h_sub:sub≤255)(h_code:code≤4294967295):GL ⟨1,ix,sub,false,false,false,false,0,code,[],0,0,0,0⟩:=by
 exact gmk ⟨1,gw2 ix,gw1 sub,false,false,false,false,0,gw4 code,[],0,0,0,0⟩ (by rw[b2w h_ix,b1w (by omega),b4w h_code])
theorem gl2a (ix sub size:Nat)(h1:ix≤65535)(h2:sub≤255)(h3:size≤4294967295):GL ⟨2,ix,sub,false,false,false,true,size,0,[],0,0,0,0⟩:=by
 exact gmk ⟨2,gw2 ix,gw1 sub,false,false,false,true,gw4 size,0,[],0,0,0,0⟩ (by rw[b2w h1,b1w h2,b4w h3])
theorem gl2b (ix sub:Nat)(h1:ix≤65535)(h2:sub≤255):GL ⟨2,ix,sub,false,false,false,false,0,0,[],0,0,0,0⟩:=by
 exact gmk ⟨2,gw2 ix,gw1 sub,false,false,false,false,0,0,[],0,0,0,0⟩ (by rw[b2w h1,b1w h2])
theorem gl2c1 (ix sub:Nat)(h1:ix≤65535)(h2:sub≤255)(d0:UInt8):GL ⟨2,ix,sub,false,false,false,true,0,0,[d0],0,0,0,0⟩:=by
 exact gmk ⟨2,gw2 ix,gw1 sub,false,false,false,true,0,0,[d0],0,0,0,0⟩ (by rw[b2w h1,b1w h2])
theorem gl2c2 (ix sub:Nat)(h1:ix≤65535)(h2:sub≤255)(d0 d1:UInt8):GL ⟨2,ix,sub,false,false,false,true,0,0,[d0,d1],0,0,0,0⟩:=by
 exact gmk ⟨2,gw2 ix,gw1 sub,false,false,false,true,0,0,[d0,d1],0,0,0,0⟩ (by rw[b2w h1,b1w h2])
theorem gl2c3 (ix sub:Nat)(h1:ix≤65535)(h2:sub≤255)(d0 d1 d2:UInt8):GL ⟨2,ix,sub,false,false,false,true,0,0,[d0,d1,d2],0,0,0,0⟩:=by
 exact gmk ⟨2,gw2 ix,gw1 sub,false,false,false,true,0,0,[d0,d1,d2],0,0,0,0⟩ (by rw[b2w h1,b1w h2])
theorem gl2c4 (ix sub:Nat)(h1:ix≤65535)(h2:sub≤255)(d0 d1 d2 d3:UInt8):GL ⟨2,ix,sub,false,false,false,true,0,0,[d0,d1,d2,d3],0,0,0,0⟩:=by
 exact gmk ⟨2,gw2 ix,gw1 sub,false,false,false,true,0,0,[d0,d1,d2,d3],0,0,0,0⟩ (by rw[b2w h1,b1w h2])
theorem gl2d4 (ix sub:Nat)(h1:ix≤65535)(h2:sub≤255)(d0 d1 d2 d3:UInt8):GL ⟨2,ix,sub,false,false,false,false,0,0,[d0,d1,d2,d3],0,0,0,0⟩:=by
 exact gmk ⟨2,gw2 ix,gw1 sub,false,false,false,false,0,0,[d0,d1,d2,d3],0,0,0,0⟩ (by rw[b2w h1,b1w h2])
theorem gl3n0 (tg la:Bool):GL ⟨3,0,0,tg,la,false,false,0,0,[],0,0,0,0⟩:=by
 cases tg<;>cases la<;>exact⟨by kernel_rfl,by kernel_rfl⟩
theorem gl3n1 (tg la:Bool)(d0:UInt8):GL ⟨3,0,0,tg,la,false,false,0,0,[d0],0,0,0,0⟩:=by
 cases tg<;>cases la<;>exact⟨by kernel_rfl,by kernel_rfl⟩
theorem gl3n2 (tg la:Bool)(d0 d1:UInt8):GL ⟨3,0,0,tg,la,false,false,0,0,[d0,d1],0,0,0,0⟩:=by
 cases tg<;>cases la<;>exact⟨by kernel_rfl,by kernel_rfl⟩
theorem gl3n3 (tg la:Bool)(d0 d1 d2:UInt8):GL ⟨3,0,0,tg,la,false,false,0,0,[d0,d1,d2],0,0,0,0⟩:=by
 cases tg<;>cases la<;>exact⟨by kernel_rfl,by kernel_rfl⟩
theorem gl3n4 (tg la:Bool)(d0 d1 d2 d3:UInt8):GL ⟨3,0,0,tg,la,false,false,0,0,[d0,d1,d2,d3],0,0,0,0⟩:=by
 cases tg<;>cases la<;>exact⟨by kernel_rfl,by kernel_rfl⟩
theorem gl3n5 (tg la:Bool)(d0 d1 d2 d3 d4:UInt8):GL ⟨3,0,0,tg,la,false,false,0,0,[d0,d1,d2,d3,d4],0,0,0,0⟩:=by
 cases tg<;>cases la<;>exact⟨by kernel_rfl,by kernel_rfl⟩
theorem gl3n6 (tg la:Bool)(d0 d1 d2 d3 d4 d5:UInt8):GL ⟨3,0,0,tg,la,false,false,0,0,[d0,d1,d2,d3,d4,d5],0,0,0,0⟩:=by
 cases tg<;>cases la<;>exact⟨by kernel_rfl,by kernel_rfl⟩
theorem gl3n7 (tg la:Bool)(d0 d1 d2 d3 d4 d5 d6:UInt8):GL ⟨3,0,0,tg,la,false,false,0,0,[d0,d1,d2,d3,d4,d5,d6],0,0,0,0⟩:=by
 cases tg<;>cases la<;>exact⟨by kernel_rfl,by kernel_rfl⟩
theorem gl4 (ix sub:Nat)(h_ix:ix≤65535)(h_sub:sub≤255):GL ⟨4,ix,sub,false,false,false,false,0,0,[],0,0,0,0⟩:=by
 exact gmk ⟨4,gw2 ix,gw1 sub,false,false,false,false,0,0,[],0,0,0,0⟩ (by rw[b2w h_ix,b1w (by omega)])
theorem gl5 (tg:Bool):GL ⟨5,0,0,tg,false,false,false,0,0,[],0,0,0,0⟩:=by
 cases tg<;>exact⟨by kernel_rfl,by kernel_rfl⟩
theorem gl6t (ix sub size:Nat)(cr:Bool)(h1:ix≤65535)(h2:sub≤255)(h3:size≤4294967295):GL ⟨6,ix,sub,false,false,cr,true,size,0,[],0,0,0,0⟩:=by
 cases cr
 · exact gmk ⟨6,gw2 ix,gw1 sub,false,false,false,true,gw4 size,0,[],0,0,0,0⟩ (by rw[b2w h1,b1w h2,b4w h3])
 · exact gmk ⟨6,gw2 ix,gw1 sub,false,false,true,true,gw4 size,0,[],0,0,0,0⟩ (by rw[b2w h1,b1w h2,b4w h3])
theorem gl6f (ix sub:Nat)(cr:Bool)(h1:ix≤65535)(h2:sub≤255):GL ⟨6,ix,sub,false,false,cr,false,0,0,[],0,0,0,0⟩:=by
 cases cr
 · exact gmk ⟨6,gw2 ix,gw1 sub,false,false,false,false,0,0,[],0,0,0,0⟩ (by rw[b2w h1,b1w h2])
 · exact gmk ⟨6,gw2 ix,gw1 sub,false,false,true,false,0,0,[],0,0,0,0⟩ (by rw[b2w h1,b1w h2])
theorem gl7e0 (sum:Nat)(h1:sum≤65535):GL ⟨7,0,0,false,false,false,false,0,0,[],0,0,0,sum⟩:=by
 exact gmk ⟨7,0,0,false,false,false,false,0,0,[],0,0,0,gw2 sum⟩ (by rw[b2w h1])
theorem gl7e1 (sum:Nat)(h1:sum≤65535):GL ⟨7,0,0,false,false,false,false,0,0,[],0,0,1,sum⟩:=by
 exact gmk ⟨7,0,0,false,false,false,false,0,0,[],0,0,1,gw2 sum⟩ (by rw[b2w h1])
theorem gl7e2 (sum:Nat)(h1:sum≤65535):GL ⟨7,0,0,false,false,false,false,0,0,[],0,0,2,sum⟩:=by
 exact gmk ⟨7,0,0,false,false,false,false,0,0,[],0,0,2,gw2 sum⟩ (by rw[b2w h1])
theorem gl7e3 (sum:Nat)(h1:sum≤65535):GL ⟨7,0,0,false,false,false,false,0,0,[],0,0,3,sum⟩:=by
 exact gmk ⟨7,0,0,false,false,false,false,0,0,[],0,0,3,gw2 sum⟩ (by rw[b2w h1])
theorem gl7e4 (sum:Nat)(h1:sum≤65535):GL ⟨7,0,0,false,false,false,false,0,0,[],0,0,4,sum⟩:=by
 exact gmk ⟨7,0,0,false,false,false,false,0,0,[],0,0,4,gw2 sum⟩ (by rw[b2w h1])
theorem gl7e5 (sum:Nat)(h1:sum≤65535):GL ⟨7,0,0,false,false,false,false,0,0,[],0,0,5,sum⟩:=by
 exact gmk ⟨7,0,0,false,false,false,false,0,0,[],0,0,5,gw2 sum⟩ (by rw[b2w h1])
theorem gl7e6 (sum:Nat)(h1:sum≤65535):GL ⟨7,0,0,false,false,false,false,0,0,[],0,0,6,sum⟩:=by
 exact gmk ⟨7,0,0,false,false,false,false,0,0,[],0,0,6,gw2 sum⟩ (by rw[b2w h1])
theorem gl7e7 (sum:Nat)(h1:sum≤65535):GL ⟨7,0,0,false,false,false,false,0,0,[],0,0,7,sum⟩:=by
 exact gmk ⟨7,0,0,false,false,false,false,0,0,[],0,0,7,gw2 sum⟩ (by rw[b2w h1])
theorem gl8 (ix sub bl:Nat)(cr:Bool)(h_ix:ix≤65535)(h_sub:sub≤255)(h_bl:bl≤127):GL ⟨8,ix,sub,false,false,cr,false,0,0,[],0,bl,0,0⟩:=by
 cases cr
 · exact gmk ⟨8,gw2 ix,gw1 sub,false,false,false,false,0,0,[],0,gw1 bl,0,0⟩ (by rw[b2w h_ix,b1w (by omega),b1w (by omega)])
 · exact gmk ⟨8,gw2 ix,gw1 sub,false,false,true,false,0,0,[],0,gw1 bl,0,0⟩ (by rw[b2w h_ix,b1w (by omega),b1w (by omega)])
theorem gl9:GL ⟨9,0,0,false,false,false,false,0,0,[],0,0,0,0⟩:=⟨by kernel_rfl,by kernel_rfl⟩
theorem gl10 (sq bl:Nat)(h_sq:sq≤127)(h_bl:bl≤127):GL ⟨10,0,0,false,false,false,false,0,0,[],sq,bl,0,0⟩:=by
 exact gmk ⟨10,0,0,false,false,false,false,0,0,[],gw1 sq,gw1 bl,0,0⟩ (by rw[b1w (by omega),b1w (by omega)])
theorem gl11:GL ⟨11,0,0,false,false,false,false,0,0,[],0,0,0,0⟩:=⟨by kernel_rfl,by kernel_rfl⟩
theorem gl12 (ix sub:Nat)(h_ix:ix≤65535)(h_sub:sub≤255):GL ⟨12,ix,sub,false,false,false,false,0,0,[],0,0,0,0⟩:=by
 exact gmk ⟨12,gw2 ix,gw1 sub,false,false,false,false,0,0,[],0,0,0,0⟩ (by rw[b2w h_ix,b1w (by omega)])
theorem gl13 (tg:Bool):GL ⟨13,0,0,tg,false,false,false,0,0,[],0,0,0,0⟩:=by
 cases tg<;>exact⟨by kernel_rfl,by kernel_rfl⟩
theorem gl14a (ix sub size:Nat)(h1:ix≤65535)(h2:sub≤255)(h3:size≤4294967295):GL ⟨14,ix,sub,false,false,false,true,size,0,[],0,0,0,0⟩:=by
 exact gmk ⟨14,gw2 ix,gw1 sub,false,false,false,true,gw4 size,0,[],0,0,0,0⟩ (by rw[b2w h1,b1w h2,b4w h3])
theorem gl14b (ix sub:Nat)(h1:ix≤65535)(h2:sub≤255):GL ⟨14,ix,sub,false,false,false,false,0,0,[],0,0,0,0⟩:=by
 exact gmk ⟨14,gw2 ix,gw1 sub,false,false,false,false,0,0,[],0,0,0,0⟩ (by rw[b2w h1,b1w h2])
theorem zqz (ix sub:Nat)(h1:ix≤65535)(h2:sub≤255)(d0:UInt8):GL ⟨14,ix,sub,false,false,false,true,0,0,[d0],0,0,0,0⟩:=by
 exact gmk ⟨14,gw2 ix,gw1 sub,false,false,false,true,0,0,[d0],0,0,0,0⟩ (by rw[b2w h1,b1w h2])
theorem zq0 (ix sub:Nat)(h1:ix≤65535)(h2:sub≤255)(d0 d1:UInt8):GL ⟨14,ix,sub,false,false,false,true,0,0,[d0,d1],0,0,0,0⟩:=by
 exact gmk ⟨14,gw2 ix,gw1 sub,false,false,false,true,0,0,[d0,d1],0,0,0,0⟩ (by rw[b2w h1,b1w h2])
theorem zq1 (ix sub:Nat)(h1:ix≤65535)(h2:sub≤255)(d0 d1 d2:UInt8):GL ⟨14,ix,sub,false,false,false,true,0,0,[d0,d1,d2],0,0,0,0⟩:=by
 exact gmk ⟨14,gw2 ix,gw1 sub,false,false,false,true,0,0,[d0,d1,d2],0,0,0,0⟩ (by rw[b2w h1,b1w h2])
theorem zq2 (ix sub:Nat)(h1:ix≤65535)(h2:sub≤255)(d0 d1 d2 d3:UInt8):GL ⟨14,ix,sub,false,false,false,true,0,0,[d0,d1,d2,d3],0,0,0,0⟩:=by
 exact gmk ⟨14,gw2 ix,gw1 sub,false,false,false,true,0,0,[d0,d1,d2,d3],0,0,0,0⟩ (by rw[b2w h1,b1w h2])
theorem zq3 (ix sub:Nat)(h1:ix≤65535)(h2:sub≤255)(d0 d1 d2 d3:UInt8):GL ⟨14,ix,sub,false,false,false,false,0,0,[d0,d1,d2,d3],0,0,0,0⟩:=by
 exact gmk ⟨14,gw2 ix,gw1 sub,false,false,false,false,0,0,[d0,d1,d2,d3],0,0,0,0⟩ (by rw[b2w h1,b1w h2])
theorem zq4 (tg la:Bool):GL ⟨15,0,0,tg,la,false,false,0,0,[],0,0,0,0⟩:=by
 cases tg<;>cases la<;>exact⟨by kernel_rfl,by kernel_rfl⟩
theorem zq6 (tg la:Bool)(d0:UInt8):GL ⟨15,0,0,tg,la,false,false,0,0,[d0],0,0,0,0⟩:=by
 cases tg<;>cases la<;>exact⟨by kernel_rfl,by kernel_rfl⟩
theorem zq7 (tg la:Bool)(d0 d1:UInt8):GL ⟨15,0,0,tg,la,false,false,0,0,[d0,d1],0,0,0,0⟩:=by
 cases tg<;>cases la<;>exact⟨by kernel_rfl,by kernel_rfl⟩
theorem zq8 (tg la:Bool)(d0 d1 d2:UInt8):GL ⟨15,0,0,tg,la,false,false,0,0,[d0,d1,d2],0,0,0,0⟩:=by
 cases tg<;>cases la<;>exact⟨by kernel_rfl,by kernel_rfl⟩
theorem zra (tg la:Bool)(d0 d1 d2 d3:UInt8):GL ⟨15,0,0,tg,la,false,false,0,0,[d0,d1,d2,d3],0,0,0,0⟩:=by
 cases tg<;>cases la<;>exact⟨by kernel_rfl,by kernel_rfl⟩
theorem zrb (tg la:Bool)(d0 d1 d2 d3 d4:UInt8):GL ⟨15,0,0,tg,la,false,false,0,0,[d0,d1,d2,d3,d4],0,0,0,0⟩:=by
 cases tg<;>cases la<;>exact⟨by kernel_rfl,by kernel_rfl⟩
theorem zrc (tg la:Bool)(d0 d1 d2 d3 d4 d5:UInt8):GL ⟨15,0,0,tg,la,false,false,0,0,[d0,d1,d2,d3,d4,d5],0,0,0,0⟩:=by
 cases tg<;>cases la<;>exact⟨by kernel_rfl,by kernel_rfl⟩
theorem zrd (tg la:Bool)(d0 d1 d2 d3 d4 d5 d6:UInt8):GL ⟨15,0,0,tg,la,false,false,0,0,[d0,d1,d2,d3,d4,d5,d6],0,0,0,0⟩:=by
 cases tg<;>cases la<;>exact⟨by kernel_rfl,by kernel_rfl⟩
theorem gl16 (ix sub bl:Nat)(cr:Bool)(h_ix:ix≤65535)(h_sub:sub≤255)(h_bl:bl≤127):GL ⟨16,ix,sub,false,false,cr,false,0,0,[],0,bl,0,0⟩:=by
 cases cr
 · exact gmk ⟨16,gw2 ix,gw1 sub,false,false,false,false,0,0,[],0,gw1 bl,0,0⟩ (by rw[b2w h_ix,b1w (by omega),b1w (by omega)])
 · exact gmk ⟨16,gw2 ix,gw1 sub,false,false,true,false,0,0,[],0,gw1 bl,0,0⟩ (by rw[b2w h_ix,b1w (by omega),b1w (by omega)])
theorem gl17 (sq bl:Nat)(h_sq:sq≤127)(h_bl:bl≤127):GL ⟨17,0,0,false,false,false,false,0,0,[],sq,bl,0,0⟩:=by
 exact gmk ⟨17,0,0,false,false,false,false,0,0,[],gw1 sq,gw1 bl,0,0⟩ (by rw[b1w (by omega),b1w (by omega)])
theorem gl18:GL ⟨18,0,0,false,false,false,false,0,0,[],0,0,0,0⟩:=⟨by kernel_rfl,by kernel_rfl⟩
theorem gl19t (ix sub size:Nat)(cr:Bool)(h1:ix≤65535)(h2:sub≤255)(h3:size≤4294967295):GL ⟨19,ix,sub,false,false,cr,true,size,0,[],0,0,0,0⟩:=by
 cases cr
 · exact gmk ⟨19,gw2 ix,gw1 sub,false,false,false,true,gw4 size,0,[],0,0,0,0⟩ (by rw[b2w h1,b1w h2,b4w h3])
 · exact gmk ⟨19,gw2 ix,gw1 sub,false,false,true,true,gw4 size,0,[],0,0,0,0⟩ (by rw[b2w h1,b1w h2,b4w h3])
theorem gl19f (ix sub:Nat)(cr:Bool)(h1:ix≤65535)(h2:sub≤255):GL ⟨19,ix,sub,false,false,cr,false,0,0,[],0,0,0,0⟩:=by
 cases cr
 · exact gmk ⟨19,gw2 ix,gw1 sub,false,false,false,false,0,0,[],0,0,0,0⟩ (by rw[b2w h1,b1w h2])
 · exact gmk ⟨19,gw2 ix,gw1 sub,false,false,true,false,0,0,[],0,0,0,0⟩ (by rw[b2w h1,b1w h2])
theorem zre (sum:Nat)(h1:sum≤65535):GL ⟨20,0,0,false,false,false,false,0,0,[],0,0,0,sum⟩:=by
 exact gmk ⟨20,0,0,false,false,false,false,0,0,[],0,0,0,gw2 sum⟩ (by rw[b2w h1])
theorem zrf (sum:Nat)(h1:sum≤65535):GL ⟨20,0,0,false,false,false,false,0,0,[],0,0,1,sum⟩:=by
 exact gmk ⟨20,0,0,false,false,false,false,0,0,[],0,0,1,gw2 sum⟩ (by rw[b2w h1])
theorem zrg (sum:Nat)(h1:sum≤65535):GL ⟨20,0,0,false,false,false,false,0,0,[],0,0,2,sum⟩:=by
 exact gmk ⟨20,0,0,false,false,false,false,0,0,[],0,0,2,gw2 sum⟩ (by rw[b2w h1])
theorem zrh (sum:Nat)(h1:sum≤65535):GL ⟨20,0,0,false,false,false,false,0,0,[],0,0,3,sum⟩:=by
 exact gmk ⟨20,0,0,false,false,false,false,0,0,[],0,0,3,gw2 sum⟩ (by rw[b2w h1])
theorem zri (sum:Nat)(h1:sum≤65535):GL ⟨20,0,0,false,false,false,false,0,0,[],0,0,4,sum⟩:=by
 exact gmk ⟨20,0,0,false,false,false,false,0,0,[],0,0,4,gw2 sum⟩ (by rw[b2w h1])
theorem zrj (sum:Nat)(h1:sum≤65535):GL ⟨20,0,0,false,false,false,false,0,0,[],0,0,5,sum⟩:=by
 exact gmk ⟨20,0,0,false,false,false,false,0,0,[],0,0,5,gw2 sum⟩ (by rw[b2w h1])
theorem zrk (sum:Nat)(h1:sum≤65535):GL ⟨20,0,0,false,false,false,false,0,0,[],0,0,6,sum⟩:=by
 exact gmk ⟨20,0,0,false,false,false,false,0,0,[],0,0,6,gw2 sum⟩ (by rw[b2w h1])
theorem zrl (sum:Nat)(h1:sum≤65535):GL ⟨20,0,0,false,false,false,false,0,0,[],0,0,7,sum⟩:=by
 exact gmk ⟨20,0,0,false,false,false,false,0,0,[],0,0,7,gw2 sum⟩ (by rw[b2w h1])
theorem gl21t (sq:Nat)(h:sq≤127)(d0 d1 d2 d3 d4 d5 d6:UInt8):GL ⟨21,0,0,false,true,false,false,0,0,[d0,d1,d2,d3,d4,d5,d6],(sq:Nat),0,0,0⟩:=by
 exact gmk ⟨21,0,0,false,(decide (128≤(UInt8.ofNat (sq ||| 128)).toNat)),false,false,0,0,[d0,d1,d2,d3,d4,d5,d6],(((UInt8.ofNat (sq ||| 128)).toNat % 128:Nat):Int),0,0,0⟩ (by rw[(zqy sq h).1,decide_eq_true (zqy sq h).2.1])
theorem gl21f (sq:Nat)(h:sq≤127)(d0 d1 d2 d3 d4 d5 d6:UInt8):GL ⟨21,0,0,false,false,false,false,0,0,[d0,d1,d2,d3,d4,d5,d6],(sq:Nat),0,0,0⟩:=by
 exact gmk ⟨21,0,0,false,(decide (128≤(UInt8.ofNat sq).toNat)),false,false,0,0,[d0,d1,d2,d3,d4,d5,d6],(((UInt8.ofNat sq).toNat % 128:Nat):Int),0,0,0⟩ (by rw[(zqy sq h).2.2.1,decide_eq_false (zqy sq h).2.2.2])
theorem zrm (M:Ms)(hc:canB M=true)(hu1:M.size≤4294967295)(hu2:M.code≤4294967295)(hu3:M.sum≤65535):GL M:=by
 have h:=zpw M hc;obtain⟨hr,hsh,hf0⟩:=zpx M hc;clear hc;have k1:1≤M.kind∧M.kind≤21:=by
  refine⟨?_,?_⟩
  · rcases Int.lt_or_le M.kind 1 with h | h
    · exact absurd (zch _ (.inl h)) hf0
    · exact h
  · rcases Int.lt_or_le 21 M.kind with h | h
    · exact absurd (zch _ (.inr h)) hf0
    · exact h
 obtain⟨kind,ix,sub,tg,la,cr,sz,size,code,data,sq,bl,em,sum⟩:=M;simp only[rangeB,Bool.and_eq_true,decide_eq_true_iff] at hr k1 hu1 hu2 hu3;obtain⟨⟨⟨⟨⟨⟨a1,a2⟩,b1,b2⟩,c1,c2⟩,d1,d2⟩,e1,e2⟩,hd7⟩:=hr;obtain⟨ix,rfl⟩:=Int.eq_ofNat_of_zero_le a1;obtain⟨sub,rfl⟩:=Int.eq_ofNat_of_zero_le b1;obtain⟨sq,rfl⟩:=Int.eq_ofNat_of_zero_le c1;obtain⟨bl,rfl⟩:=Int.eq_ofNat_of_zero_le d1;obtain⟨em,rfl⟩:=Int.eq_ofNat_of_zero_le e1;have A2:ix≤65535:=by omega
 have B2:sub≤255:=by omega
 have C2:sq≤127:=by omega
 have D2:bl≤127:=by omega
 have E2:em≤7:=by omega
 clear a1 a2 b1 b2 c1 c2 d1 d2 e1 e2;rcases (show kind=1∨kind=2∨kind=3∨kind=4∨kind=5∨kind=6∨kind=7∨kind=8∨kind=9∨kind=10∨kind=11∨kind=12∨kind=13∨kind=14∨kind=15∨kind=16∨kind=17∨kind=18∨kind=19∨kind=20∨kind=21 by omega) with rfl | rfl | rfl | rfl | rfl | rfl | rfl | rfl | rfl | rfl | rfl | rfl | rfl | rfl | rfl | rfl | rfl | rfl | rfl | rfl | rfl
 · injection h with h1 h2 h3 h4 h5 h6 h7 h8 h9 h10 h11 h12 h13 h14
   obtain rfl:tg=false:=h4.symm;obtain rfl:la=false:=h5.symm;obtain rfl:cr=false:=h6.symm;obtain rfl:sz=false:=h7.symm;obtain rfl:size=0:=h8.symm;obtain rfl:data= []:=h10.symm;have z11:((sq:Nat):Int)=0:=h11.symm;obtain rfl:sq=0:=by omega
   have z12:((bl:Nat):Int)=0:=h12.symm;obtain rfl:bl=0:=by omega
   have z13:((em:Nat):Int)=0:=h13.symm;obtain rfl:em=0:=by omega
   obtain rfl:sum=0:=h14.symm;exact gl1 ix sub code A2 B2 hu2
 · injection h with h1 h2 h3 h4 h5 h6 h7 h8 h9 h10 h11 h12 h13 h14
   obtain rfl:tg=false:=h4.symm;obtain rfl:la=false:=h5.symm;obtain rfl:cr=false:=h6.symm;obtain rfl:code=0:=h9.symm;have z11:((sq:Nat):Int)=0:=h11.symm;obtain rfl:sq=0:=by omega
   have z12:((bl:Nat):Int)=0:=h12.symm;obtain rfl:bl=0:=by omega
   have z13:((em:Nat):Int)=0:=h13.symm;obtain rfl:em=0:=by omega
   obtain rfl:sum=0:=h14.symm;simp only[] at hsh hd7;rcases data with _ | ⟨d0,_ | ⟨d1,_ | ⟨d2,_ | ⟨d3,_ | ⟨d4,r⟩⟩⟩⟩⟩
   · cases sz
     · obtain rfl:size=0:=h8.symm;exact gl2b ix sub A2 B2
     · exact gl2a ix sub size A2 B2 hu1
   · obtain rfl:size=0:=(h8.symm.trans (if_neg (by rintro (⟨_,h,_⟩ | ⟨h,_⟩)<;> first | exact nomatch h | exact absurd h (by decide))));cases sz
     · exact absurd (show false=true from hsh) (by decide)
     · exact gl2c1 ix sub A2 B2 d0
   · obtain rfl:size=0:=(h8.symm.trans (if_neg (by rintro (⟨_,h,_⟩ | ⟨h,_⟩)<;> first | exact nomatch h | exact absurd h (by decide))));cases sz
     · exact absurd (show false=true from hsh) (by decide)
     · exact gl2c2 ix sub A2 B2 d0 d1
   · obtain rfl:size=0:=(h8.symm.trans (if_neg (by rintro (⟨_,h,_⟩ | ⟨h,_⟩)<;> first | exact nomatch h | exact absurd h (by decide))));cases sz
     · exact absurd (show false=true from hsh) (by decide)
     · exact gl2c3 ix sub A2 B2 d0 d1 d2
   · obtain rfl:size=0:=(h8.symm.trans (if_neg (by rintro (⟨_,h,_⟩ | ⟨h,_⟩)<;> first | exact nomatch h | exact absurd h (by decide))));cases sz
     · exact gl2d4 ix sub A2 B2 d0 d1 d2 d3
     · exact gl2c4 ix sub A2 B2 d0 d1 d2 d3
   · exfalso
     have hh:shapeB 2 ⟨_,_,_,_,_,_,sz,_,_,d0 :: d1 :: d2 :: d3 :: d4 :: r,_,_,_,_⟩=true:=hsh;simp only[shapeB,if_true,List.length_cons,Bool.or_eq_true,Bool.and_eq_true,decide_eq_true_iff] at hh;omega
 · injection h with h1 h2 h3 h4 h5 h6 h7 h8 h9 h10 h11 h12 h13 h14
   have z2:((ix:Nat):Int)=0:=h2.symm;obtain rfl:ix=0:=by omega
   have z3:((sub:Nat):Int)=0:=h3.symm;obtain rfl:sub=0:=by omega
   obtain rfl:cr=false:=h6.symm;obtain rfl:sz=false:=h7.symm;obtain rfl:size=0:=h8.symm;obtain rfl:code=0:=h9.symm;have z11:((sq:Nat):Int)=0:=h11.symm;obtain rfl:sq=0:=by omega
   have z12:((bl:Nat):Int)=0:=h12.symm;obtain rfl:bl=0:=by omega
   have z13:((em:Nat):Int)=0:=h13.symm;obtain rfl:em=0:=by omega
   obtain rfl:sum=0:=h14.symm;rcases data with _ | ⟨d0,_ | ⟨d1,_ | ⟨d2,_ | ⟨d3,_ | ⟨d4,_ | ⟨d5,_ | ⟨d6,_ | ⟨d7,r⟩⟩⟩⟩⟩⟩⟩⟩
   · exact gl3n0 tg la
   · exact gl3n1 tg la d0
   · exact gl3n2 tg la d0 d1
   · exact gl3n3 tg la d0 d1 d2
   · exact gl3n4 tg la d0 d1 d2 d3
   · exact gl3n5 tg la d0 d1 d2 d3 d4
   · exact gl3n6 tg la d0 d1 d2 d3 d4 d5
   · exact gl3n7 tg la d0 d1 d2 d3 d4 d5 d6
   · simp only[List.length_cons] at hd7;omega
 · injection h with h1 h2 h3 h4 h5 h6 h7 h8 h9 h10 h11 h12 h13 h14
   obtain rfl:tg=false:=h4.symm;obtain rfl:la=false:=h5.symm;obtain rfl:cr=false:=h6.symm;obtain rfl:sz=false:=h7.symm;obtain rfl:size=0:=h8.symm;obtain rfl:code=0:=h9.symm;obtain rfl:data= []:=h10.symm;have z11:((sq:Nat):Int)=0:=h11.symm;obtain rfl:sq=0:=by omega
   have z12:((bl:Nat):Int)=0:=h12.symm;obtain rfl:bl=0:=by omega
   have z13:((em:Nat):Int)=0:=h13.symm;obtain rfl:em=0:=by omega
   obtain rfl:sum=0:=h14.symm;exact gl4 ix sub A2 B2
 · injection h with h1 h2 h3 h4 h5 h6 h7 h8 h9 h10 h11 h12 h13 h14
   have z2:((ix:Nat):Int)=0:=h2.symm;obtain rfl:ix=0:=by omega
   have z3:((sub:Nat):Int)=0:=h3.symm;obtain rfl:sub=0:=by omega
   obtain rfl:la=false:=h5.symm;obtain rfl:cr=false:=h6.symm;obtain rfl:sz=false:=h7.symm;obtain rfl:size=0:=h8.symm;obtain rfl:code=0:=h9.symm;obtain rfl:data= []:=h10.symm;have z11:((sq:Nat):Int)=0:=h11.symm;obtain rfl:sq=0:=by omega
   have z12:((bl:Nat):Int)=0:=h12.symm;obtain rfl:bl=0:=by omega
   have z13:((em:Nat):Int)=0:=h13.symm;obtain rfl:em=0:=by omega
   obtain rfl:sum=0:=h14.symm;exact gl5 tg
 · injection h with h1 h2 h3 h4 h5 h6 h7 h8 h9 h10 h11 h12 h13 h14
   obtain rfl:tg=false:=h4.symm;obtain rfl:la=false:=h5.symm;obtain rfl:code=0:=h9.symm;obtain rfl:data= []:=h10.symm;have z11:((sq:Nat):Int)=0:=h11.symm;obtain rfl:sq=0:=by omega
   have z12:((bl:Nat):Int)=0:=h12.symm;obtain rfl:bl=0:=by omega
   have z13:((em:Nat):Int)=0:=h13.symm;obtain rfl:em=0:=by omega
   obtain rfl:sum=0:=h14.symm;cases sz
   · obtain rfl:size=0:=h8.symm;exact gl6f ix sub cr A2 B2
   · exact gl6t ix sub size cr A2 B2 hu1
 · injection h with h1 h2 h3 h4 h5 h6 h7 h8 h9 h10 h11 h12 h13 h14
   have z2:((ix:Nat):Int)=0:=h2.symm;obtain rfl:ix=0:=by omega
   have z3:((sub:Nat):Int)=0:=h3.symm;obtain rfl:sub=0:=by omega
   obtain rfl:tg=false:=h4.symm;obtain rfl:la=false:=h5.symm;obtain rfl:cr=false:=h6.symm;obtain rfl:sz=false:=h7.symm;obtain rfl:size=0:=h8.symm;obtain rfl:code=0:=h9.symm;obtain rfl:data= []:=h10.symm;have z11:((sq:Nat):Int)=0:=h11.symm;obtain rfl:sq=0:=by omega
   have z12:((bl:Nat):Int)=0:=h12.symm;obtain rfl:bl=0:=by omega
   rcases (show em=0∨em=1∨em=2∨em=3∨em=4∨em=5∨em=6∨em=7 by omega) with rfl | rfl | rfl | rfl | rfl | rfl | rfl | rfl
   · exact gl7e0 sum hu3
   · exact gl7e1 sum hu3
   · exact gl7e2 sum hu3
   · exact gl7e3 sum hu3
   · exact gl7e4 sum hu3
   · exact gl7e5 sum hu3
   · exact gl7e6 sum hu3
   · exact gl7e7 sum hu3
 · injection h with h1 h2 h3 h4 h5 h6 h7 h8 h9 h10 h11 h12 h13 h14
   obtain rfl:tg=false:=h4.symm;obtain rfl:la=false:=h5.symm;obtain rfl:sz=false:=h7.symm;obtain rfl:size=0:=h8.symm;obtain rfl:code=0:=h9.symm;obtain rfl:data= []:=h10.symm;have z11:((sq:Nat):Int)=0:=h11.symm;obtain rfl:sq=0:=by omega
   have z13:((em:Nat):Int)=0:=h13.symm;obtain rfl:em=0:=by omega
   obtain rfl:sum=0:=h14.symm;exact gl8 ix sub bl cr A2 B2 D2
 · injection h with h1 h2 h3 h4 h5 h6 h7 h8 h9 h10 h11 h12 h13 h14
   have z2:((ix:Nat):Int)=0:=h2.symm;obtain rfl:ix=0:=by omega
   have z3:((sub:Nat):Int)=0:=h3.symm;obtain rfl:sub=0:=by omega
   obtain rfl:tg=false:=h4.symm;obtain rfl:la=false:=h5.symm;obtain rfl:cr=false:=h6.symm;obtain rfl:sz=false:=h7.symm;obtain rfl:size=0:=h8.symm;obtain rfl:code=0:=h9.symm;obtain rfl:data= []:=h10.symm;have z11:((sq:Nat):Int)=0:=h11.symm;obtain rfl:sq=0:=by omega
   have z12:((bl:Nat):Int)=0:=h12.symm;obtain rfl:bl=0:=by omega
   have z13:((em:Nat):Int)=0:=h13.symm;obtain rfl:em=0:=by omega
   obtain rfl:sum=0:=h14.symm;exact gl9
 · injection h with h1 h2 h3 h4 h5 h6 h7 h8 h9 h10 h11 h12 h13 h14
   have z2:((ix:Nat):Int)=0:=h2.symm;obtain rfl:ix=0:=by omega
   have z3:((sub:Nat):Int)=0:=h3.symm;obtain rfl:sub=0:=by omega
   obtain rfl:tg=false:=h4.symm;obtain rfl:la=false:=h5.symm;obtain rfl:cr=false:=h6.symm;obtain rfl:sz=false:=h7.symm;obtain rfl:size=0:=h8.symm;obtain rfl:code=0:=h9.symm;obtain rfl:data= []:=h10.symm;have z13:((em:Nat):Int)=0:=h13.symm;obtain rfl:em=0:=by omega
   obtain rfl:sum=0:=h14.symm;exact gl10 sq bl C2 D2
 · injection h with h1 h2 h3 h4 h5 h6 h7 h8 h9 h10 h11 h12 h13 h14
   have z2:((ix:Nat):Int)=0:=h2.symm;obtain rfl:ix=0:=by omega
   have z3:((sub:Nat):Int)=0:=h3.symm;obtain rfl:sub=0:=by omega
   obtain rfl:tg=false:=h4.symm;obtain rfl:la=false:=h5.symm;obtain rfl:cr=false:=h6.symm;obtain rfl:sz=false:=h7.symm;obtain rfl:size=0:=h8.symm;obtain rfl:code=0:=h9.symm;obtain rfl:data= []:=h10.symm;have z11:((sq:Nat):Int)=0:=h11.symm;obtain rfl:sq=0:=by omega
   have z12:((bl:Nat):Int)=0:=h12.symm;obtain rfl:bl=0:=by omega
   have z13:((em:Nat):Int)=0:=h13.symm;obtain rfl:em=0:=by omega
   obtain rfl:sum=0:=h14.symm;exact gl11
 · injection h with h1 h2 h3 h4 h5 h6 h7 h8 h9 h10 h11 h12 h13 h14
   obtain rfl:tg=false:=h4.symm;obtain rfl:la=false:=h5.symm;obtain rfl:cr=false:=h6.symm;obtain rfl:sz=false:=h7.symm;obtain rfl:size=0:=h8.symm;obtain rfl:code=0:=h9.symm;obtain rfl:data= []:=h10.symm;have z11:((sq:Nat):Int)=0:=h11.symm;obtain rfl:sq=0:=by omega
   have z12:((bl:Nat):Int)=0:=h12.symm;obtain rfl:bl=0:=by omega
   have z13:((em:Nat):Int)=0:=h13.symm;obtain rfl:em=0:=by omega
   obtain rfl:sum=0:=h14.symm;exact gl12 ix sub A2 B2
 · injection h with h1 h2 h3 h4 h5 h6 h7 h8 h9 h10 h11 h12 h13 h14
   have z2:((ix:Nat):Int)=0:=h2.symm;obtain rfl:ix=0:=by omega
   have z3:((sub:Nat):Int)=0:=h3.symm;obtain rfl:sub=0:=by omega
   obtain rfl:la=false:=h5.symm;obtain rfl:cr=false:=h6.symm;obtain rfl:sz=false:=h7.symm;obtain rfl:size=0:=h8.symm;obtain rfl:code=0:=h9.symm;obtain rfl:data= []:=h10.symm;have z11:((sq:Nat):Int)=0:=h11.symm;obtain rfl:sq=0:=by omega
   have z12:((bl:Nat):Int)=0:=h12.symm;obtain rfl:bl=0:=by omega
   have z13:((em:Nat):Int)=0:=h13.symm;obtain rfl:em=0:=by omega
   obtain rfl:sum=0:=h14.symm;exact gl13 tg
 · injection h with h1 h2 h3 h4 h5 h6 h7 h8 h9 h10 h11 h12 h13 h14
   obtain rfl:tg=false:=h4.symm;obtain rfl:la=false:=h5.symm;obtain rfl:cr=false:=h6.symm;obtain rfl:code=0:=h9.symm;have z11:((sq:Nat):Int)=0:=h11.symm;obtain rfl:sq=0:=by omega
   have z12:((bl:Nat):Int)=0:=h12.symm;obtain rfl:bl=0:=by omega
   have z13:((em:Nat):Int)=0:=h13.symm;obtain rfl:em=0:=by omega
   obtain rfl:sum=0:=h14.symm;simp only[] at hsh hd7;rcases data with _ | ⟨d0,_ | ⟨d1,_ | ⟨d2,_ | ⟨d3,_ | ⟨d4,r⟩⟩⟩⟩⟩
   · cases sz
     · obtain rfl:size=0:=h8.symm;exact gl14b ix sub A2 B2
     · exact gl14a ix sub size A2 B2 hu1
   · obtain rfl:size=0:=(h8.symm.trans (if_neg (by rintro (⟨_,h,_⟩ | ⟨h,_⟩)<;> first | exact nomatch h | exact absurd h (by decide))));cases sz
     · exact absurd (show false=true from hsh) (by decide)
     · exact zqz ix sub A2 B2 d0
   · obtain rfl:size=0:=(h8.symm.trans (if_neg (by rintro (⟨_,h,_⟩ | ⟨h,_⟩)<;> first | exact nomatch h | exact absurd h (by decide))));cases sz
     · exact absurd (show false=true from hsh) (by decide)
     · exact zq0 ix sub A2 B2 d0 d1
   · obtain rfl:size=0:=(h8.symm.trans (if_neg (by rintro (⟨_,h,_⟩ | ⟨h,_⟩)<;> first | exact nomatch h | exact absurd h (by decide))));cases sz
     · exact absurd (show false=true from hsh) (by decide)
     · exact zq1 ix sub A2 B2 d0 d1 d2
   · obtain rfl:size=0:=(h8.symm.trans (if_neg (by rintro (⟨_,h,_⟩ | ⟨h,_⟩)<;> first | exact nomatch h | exact absurd h (by decide))));cases sz
     · exact zq3 ix sub A2 B2 d0 d1 d2 d3
     · exact zq2 ix sub A2 B2 d0 d1 d2 d3
   · exfalso
     have hh:shapeB 2 ⟨_,_,_,_,_,_,sz,_,_,d0 :: d1 :: d2 :: d3 :: d4 :: r,_,_,_,_⟩=true:=hsh;simp only[shapeB,if_true,List.length_cons,Bool.or_eq_true,Bool.and_eq_true,decide_eq_true_iff] at hh;omega
 · injection h with h1 h2 h3 h4 h5 h6 h7 h8 h9 h10 h11 h12 h13 h14
   have z2:((ix:Nat):Int)=0:=h2.symm;obtain rfl:ix=0:=by omega
   have z3:((sub:Nat):Int)=0:=h3.symm;obtain rfl:sub=0:=by omega
   obtain rfl:cr=false:=h6.symm;obtain rfl:sz=false:=h7.symm;obtain rfl:size=0:=h8.symm;obtain rfl:code=0:=h9.symm;have z11:((sq:Nat):Int)=0:=h11.symm;obtain rfl:sq=0:=by omega
   have z12:((bl:Nat):Int)=0:=h12.symm;obtain rfl:bl=0:=by omega
   have z13:((em:Nat):Int)=0:=h13.symm;obtain rfl:em=0:=by omega
   obtain rfl:sum=0:=h14.symm;rcases data with _ | ⟨d0,_ | ⟨d1,_ | ⟨d2,_ | ⟨d3,_ | ⟨d4,_ | ⟨d5,_ | ⟨d6,_ | ⟨d7,r⟩⟩⟩⟩⟩⟩⟩⟩
   · exact zq4 tg la
   · exact zq6 tg la d0
   · exact zq7 tg la d0 d1
   · exact zq8 tg la d0 d1 d2
   · exact zra tg la d0 d1 d2 d3
   · exact zrb tg la d0 d1 d2 d3 d4
   · exact zrc tg la d0 d1 d2 d3 d4 d5
   · exact zrd tg la d0 d1 d2 d3 d4 d5 d6
   · simp only[List.length_cons] at hd7;omega
 · injection h with h1 h2 h3 h4 h5 h6 h7 h8 h9 h10 h11 h12 h13 h14
   obtain rfl:tg=false:=h4.symm;obtain rfl:la=false:=h5.symm;obtain rfl:sz=false:=h7.symm;obtain rfl:size=0:=h8.symm;obtain rfl:code=0:=h9.symm;obtain rfl:data= []:=h10.symm;have z11:((sq:Nat):Int)=0:=h11.symm;obtain rfl:sq=0:=by omega
   have z13:((em:Nat):Int)=0:=h13.symm;obtain rfl:em=0:=by omega
   obtain rfl:sum=0:=h14.symm;exact gl16 ix sub bl cr A2 B2 D2
 · injection h with h1 h2 h3 h4 h5 h6 h7 h8 h9 h10 h11 h12 h13 h14
   have z2:((ix:Nat):Int)=0:=h2.symm;obtain rfl:ix=0:=by omega
   have z3:((sub:Nat):Int)=0:=h3.symm;obtain rfl:sub=0:=by omega
   obtain rfl:tg=false:=h4.symm;obtain rfl:la=false:=h5.symm;obtain rfl:cr=false:=h6.symm;obtain rfl:sz=false:=h7.symm;obtain rfl:size=0:=h8.symm;obtain rfl:code=0:=h9.symm;obtain rfl:data= []:=h10.symm;have z13:((em:Nat):Int)=0:=h13.symm;obtain rfl:em=0:=by omega
   obtain rfl:sum=0:=h14.symm;exact gl17 sq bl C2 D2
 · injection h with h1 h2 h3 h4 h5 h6 h7 h8 h9 h10 h11 h12 h13 h14
   have z2:((ix:Nat):Int)=0:=h2.symm;obtain rfl:ix=0:=by omega
   have z3:((sub:Nat):Int)=0:=h3.symm;obtain rfl:sub=0:=by omega
   obtain rfl:tg=false:=h4.symm;obtain rfl:la=false:=h5.symm;obtain rfl:cr=false:=h6.symm;obtain rfl:sz=false:=h7.symm;obtain rfl:size=0:=h8.symm;obtain rfl:code=0:=h9.symm;obtain rfl:data= []:=h10.symm;have z11:((sq:Nat):Int)=0:=h11.symm;obtain rfl:sq=0:=by omega
   have z12:((bl:Nat):Int)=0:=h12.symm;obtain rfl:bl=0:=by omega
   have z13:((em:Nat):Int)=0:=h13.symm;obtain rfl:em=0:=by omega
   obtain rfl:sum=0:=h14.symm;exact gl18
 · injection h with h1 h2 h3 h4 h5 h6 h7 h8 h9 h10 h11 h12 h13 h14
   obtain rfl:tg=false:=h4.symm;obtain rfl:la=false:=h5.symm;obtain rfl:code=0:=h9.symm;obtain rfl:data= []:=h10.symm;have z11:((sq:Nat):Int)=0:=h11.symm;obtain rfl:sq=0:=by omega
   have z12:((bl:Nat):Int)=0:=h12.symm;obtain rfl:bl=0:=by omega
   have z13:((em:Nat):Int)=0:=h13.symm;obtain rfl:em=0:=by omega
   obtain rfl:sum=0:=h14.symm;cases sz
   · obtain rfl:size=0:=h8.symm;exact gl19f ix sub cr A2 B2
   · exact gl19t ix sub size cr A2 B2 hu1
 · injection h with h1 h2 h3 h4 h5 h6 h7 h8 h9 h10 h11 h12 h13 h14
   have z2:((ix:Nat):Int)=0:=h2.symm;obtain rfl:ix=0:=by omega
   have z3:((sub:Nat):Int)=0:=h3.symm;obtain rfl:sub=0:=by omega
   obtain rfl:tg=false:=h4.symm;obtain rfl:la=false:=h5.symm;obtain rfl:cr=false:=h6.symm;obtain rfl:sz=false:=h7.symm;obtain rfl:size=0:=h8.symm;obtain rfl:code=0:=h9.symm;obtain rfl:data= []:=h10.symm;have z11:((sq:Nat):Int)=0:=h11.symm;obtain rfl:sq=0:=by omega
   have z12:((bl:Nat):Int)=0:=h12.symm;obtain rfl:bl=0:=by omega
   rcases (show em=0∨em=1∨em=2∨em=3∨em=4∨em=5∨em=6∨em=7 by omega) with rfl | rfl | rfl | rfl | rfl | rfl | rfl | rfl
   · exact zre sum hu3
   · exact zrf sum hu3
   · exact zrg sum hu3
   · exact zrh sum hu3
   · exact zri sum hu3
   · exact zrj sum hu3
   · exact zrk sum hu3
   · exact zrl sum hu3
 · injection h with h1 h2 h3 h4 h5 h6 h7 h8 h9 h10 h11 h12 h13 h14
   have z2:((ix:Nat):Int)=0:=h2.symm;obtain rfl:ix=0:=by omega
   have z3:((sub:Nat):Int)=0:=h3.symm;obtain rfl:sub=0:=by omega
   obtain rfl:tg=false:=h4.symm;obtain rfl:cr=false:=h6.symm;obtain rfl:sz=false:=h7.symm;obtain rfl:size=0:=h8.symm;obtain rfl:code=0:=h9.symm;have z12:((bl:Nat):Int)=0:=h12.symm;obtain rfl:bl=0:=by omega
   have z13:((em:Nat):Int)=0:=h13.symm;obtain rfl:em=0:=by omega
   obtain rfl:sum=0:=h14.symm;have hh:shapeB 11 ⟨_,_,_,_,_,_,_,_,_,data,_,_,_,_⟩=true:=hsh;have hl:data.length=7:=by simp[shapeB] at hh;exact hh.1
   rcases data with _ | ⟨d0,_ | ⟨d1,_ | ⟨d2,_ | ⟨d3,_ | ⟨d4,_ | ⟨d5,_ | ⟨d6,_ | ⟨d7,r⟩⟩⟩⟩⟩⟩⟩⟩<;> simp only[List.length_cons,List.length_nil] at hl<;>try omega
   cases la
   · exact gl21f sq C2 d0 d1 d2 d3 d4 d5 d6
   · exact gl21t sq C2 d0 d1 d2 d3 d4 d5 d6
end
section
open Go.RowKit
def ApartK (ks:List Int):Prop:= ∀k ∈ ks,∀k' ∈ ks,∀c,c < 256→headB k c=true→headB k' c=true→k=k'
theorem zrn (ks:List Int)(M:Ms)(hc:canB M=true)(hu1:M.size≤4294967295)(hu2:M.code≤4294967295)(hu3:M.sum≤65535)(hk:M.kind ∈ ks)(ha:ApartK ks):ofM ks (laidB M)=some M:=by
 have hG:=zrm M hc hu1 hu2 hu3
 induction ks with
 | nil=>cases hk
 | cons k ks ih=>
   unfold ofM;by_cases hkk:k=M.kind
   · subst hkk
     have:hitB M.kind (laidB M)=true:=by
      unfold hitB;rw[hG.1,hc]
      simp
     rw[if_pos this,hG.1]
   · have hn: ¬hitB k (laidB M)=true:=by
      intro h;simp only[hitB,Bool.and_eq_true,decide_eq_true_iff] at h;have hb:=zgg k (laidB M);have hN:=(zrm (guessM k (laidB M)) h.1 hb.1 hb.2.1 hb.2.2).2;rw[h.2,show (guessM k (laidB M)).kind=k from rfl] at hN;exact hkk (ha k (by simp) M.kind hk _ (by unfold byt;exact UInt8.toNat_lt _) hN hG.2)
     rw[if_neg hn];have hk':M.kind ∈ ks:=by
      rcases List.mem_cons.1 hk with h | h
      · exact absurd h.symm hkk
      · exact h
     exact ih hk' (fun a h1 b h2=>ha a (by simp[h1]) b (by simp[h2]))
theorem zro (ks:List Int)(M:Ms)(hc:canB M=true)(hu1:M.size≤4294967295)(hu2:M.code≤4294967295)(hu3:M.sum≤65535)(hk:M.kind ∈ ks)(ha:ApartK ks):resM ks (laidB M)=M∧errI ks (laidB M)=0:=by
 have h:=zrn ks M hc hu1 hu2 hu3 hk ha;have h8:=zpv M hc;refine⟨?_,?_⟩
 · unfold resM;rw[if_pos h8,h];rfl
 · unfold errI;rw[if_neg (by omega),if_neg (by omega),h];rfl
theorem zrp:ApartK reqK:=by unfold ApartK reqK;decide +kernel
theorem zrq:ApartK ansK:=by unfold ApartK ansK;decide +kernel
theorem zrr:ApartK segK:=by unfold ApartK segK;decide +kernel
end
section
open Go.RowKit
theorem zrs (t:Int):tySize t≤8:=by unfold tySize;(repeat' split)<;> omega
theorem zrt {E:Ent}{b:List UInt8}(h:valC E b=0):b.length≤256:=by
 unfold valC at h;by_cases hb:0 < tyBits E.ty
 · rw[zi6 hb] at h;unfold NumV at h;have h8:=zrs E.ty;by_cases h1:(b.length:Int) < tySize E.ty
   · omega
   · by_cases h2:tySize E.ty < (b.length:Int)
     · exfalso
       have hd:decE E.ty b=3:=by unfold decE;rw[if_neg (by omega),if_neg h1,if_pos h2]
       rw[hd] at h;simp at h
     · omega
 · rw[zi7 hb] at h;by_cases hc:checkE E.ty E.mx b=0
   · unfold checkE at hc;split at hc
     · omega
     · split at hc
       · omega
       · omega
   · rw[if_neg hc] at h
     exfalso
     revert h
     (repeat' split)<;> omega
end
section
open Go.RowKit
end
end Go.Proofs.YtkkpjbjmhaecjaaGreat
