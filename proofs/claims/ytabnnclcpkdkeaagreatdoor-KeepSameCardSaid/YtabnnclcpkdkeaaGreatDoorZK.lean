/- math/bits. -/
import Derived.Test.YtabnnclcpkdkeaaGreatDoorZI
import Derived.Shelf.Small.Bits
import Derived.Shelf.Spec.TrailingZeros
import Derived.Shelf.Bits.Mul64
namespace Go.Proofs.YtabnnclcpkdkeaaGreatDoor
open Go.Proofs.Tryz
set_option linter.all false
set_option maxRecDepth 100000
set_option maxHeartbeats 0
open Go.RowKit
def q3z:Go.Shelf.Ren:=⟨fun|264=>195|n=>n,fun|53=>46|46=>176|n=>n,fun|n=>n⟩
theorem q8D:Go.Proofs.Lays.n264 prog q3z:={
 mixed:=by kernel_rfl
 f264:=func195.trans (uS some (by kernel_rfl))
 t46:=underlying176
 a46:=Tryz.isAgg176
 z46:=Tryz.sizeOf176
 v46:=Tryz.zeroValue176
 t53:=underlying46
 a53:=Tryz.isAgg46
 z53:=Tryz.sizeOf46
 v53:=Tryz.zeroValue46
}
def q6b:Go.Shelf.Ren:=⟨fun|29=>192|n=>n,fun|22=>46|3=>3|4=>4|25=>176|54=>341|0=>0|5=>5|n=>n,fun|1=>0|n=>n⟩
theorem tzL:Go.Proofs.Lays7.n29 prog q6b:={
 mixed:=by kernel_rfl
 f29:=func192.trans (uS some (by kernel_rfl))
 t0:=underlying0
 a0:=Tryz.isAgg0
 z0:=Tryz.sizeOf0
 v0:=Tryz.zeroValue0
 i0:=by kernel_rfl
 t3:=underlying3
 a3:=Tryz.isAgg3
 z3:=Tryz.sizeOf3
 v3:=Tryz.zeroValue3
 i3:=by kernel_rfl
 t4:=underlying4
 a4:=Tryz.isAgg4
 z4:=Tryz.sizeOf4
 v4:=Tryz.zeroValue4
 i4:=by kernel_rfl
 t5:=underlying5
 a5:=Tryz.isAgg5
 z5:=Tryz.sizeOf5
 v5:=Tryz.zeroValue5
 i5:=by kernel_rfl
 t22:=underlying46
 a22:=Tryz.isAgg46
 z22:=Tryz.sizeOf46
 v22:=Tryz.zeroValue46
 i22:=by kernel_rfl
 t25:=underlying176
 a25:=Tryz.isAgg176
 z25:=Tryz.sizeOf176
 v25:=Tryz.zeroValue176
 i25:=by kernel_rfl
 t54:=underlying341
 a54:=Tryz.isAgg341
 z54:=Tryz.sizeOf341
 g1:=by kernel_rfl
}
def q5w:Go.Shelf.Ren:=⟨fun|134=>191|129=>163|n=>n,fun|53=>46|3=>3|4=>4|46=>176|5=>5|9=>9|n=>n,fun|n=>n⟩
theorem lzL:Go.Proofs.Lays.n134 prog q5w:={
 mixed:=by kernel_rfl
 f129:=func163.trans (uS some (by kernel_rfl))
 f134:=func191.trans (uS some (by kernel_rfl))
 t3:=underlying3
 a3:=Tryz.isAgg3
 z3:=Tryz.sizeOf3
 v3:=Tryz.zeroValue3
 t4:=underlying4
 a4:=Tryz.isAgg4
 z4:=Tryz.sizeOf4
 v4:=Tryz.zeroValue4
 t5:=underlying5
 a5:=Tryz.isAgg5
 z5:=Tryz.sizeOf5
 v5:=Tryz.zeroValue5
 t9:=underlying9
 a9:=Tryz.isAgg9
 z9:=Tryz.sizeOf9
 v9:=Tryz.zeroValue9
 t46:=underlying176
 a46:=Tryz.isAgg176
 z46:=Tryz.sizeOf176
 v46:=Tryz.zeroValue176
 t53:=underlying46
 a53:=Tryz.isAgg46
 z53:=Tryz.sizeOf46
 v53:=Tryz.zeroValue46
}
theorem q4y:∀(f x:Nat),x<2^f->Lib.bitLenAux f x=bl x
 | 0,x,h=>by
  obtain rfl:x=0:=by simpa using h
  rfl
 | f+1,x,h=>by
  unfold Lib.bitLenAux;by_cases A:x=0
  .rw[wZ A,A];rfl
  rw[wR A,q4y f (x/2) (by rw[mc]at h;omega)];unfold bl;rw[wR A];by_cases I:x/2=0
  .rw[wZ I];obtain rfl:x=1:=wF
   rfl
  rw[wR I,Nat.log2_def x,wZ wF];omega
theorem q2g{x:Nat}(h:x<18446744073709551616):Lib.bitLen x=bl x:=q4y 64 x h
def z1H(w:World):Prop:=TabAt 0 Lib.deBruijn64tab w
theorem z1H.low{w w':World}(h:z1H w)(hb:Below w.heap.size w w'):z1H w':=fun j L=>by
 have I:=h j L;have A:0<w.heap.size:=by
  by_cases J:0<w.heap.size
  .exact J
  simp[World.cell?,ie (iQ J)]at I
 exact(hb.cell (p:=⟨0,j,none⟩) A).trans I
theorem q3j(n:Nat)(h:n<18446744073709551616)(w:World):Calls prog 191 #[.int .u64 n] w fun e w'=>e= .returned (.int .i64 (lz n:Nat))/\w'=w:=by
 have A:=Any.bits_LeadingZeros64 lzL (n:Int) w wF wF;rw[mQ,q2g h]at A;have I:=q6P h;have e:(64 - (bl n:Int))=((lz n:Nat):Int):=by unfold lz;omega
 rw[e]at A;exact A
theorem q6V(n:Nat)(h:n<18446744073709551616)(w:World)(A:z1H w):Calls prog 192 #[.int .u64 n] w fun e w'=>e= .returned (.int .i64 (tz n:Nat))/\w'=w:=
 Any7.bits_TrailingZeros64 tzL n h w fun _=>A
theorem q7R(x y:Nat)(A:x<18446744073709551616)(I:y<18446744073709551616)(w:World):Calls prog 195 #[.int .u64 x,.int .u64 y] w fun e w'=>e= .returned (.tuple #[.int .u64 ((x*y/18446744073709551616:Nat):Int),.int .u64 ((x*y%18446744073709551616:Nat):Int)])/\w'=w:=
 Any.bits_Mul64 q8D x y A I w
