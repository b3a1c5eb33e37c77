/- The law KeepFull as the row asks it. -/
import Derived.Test.YtabnnclcpkdkeaaGreatDoorZr
import Derived.Lib.LaidTab
import Derived.Stop.LaidErr
import Derived.MakeChecks
namespace Go.Proofs.YtabnnclcpkdkeaaGreatDoor
open Go.Proofs.Tryz
set_option linter.all false
set_option maxRecDepth 100000
set_option maxHeartbeats 0
open Go.RowKit Go.ChangeShapes Go.WideShapes Go.ChangeAt Go.Deep
theorem y9z{W:World}(h:laidMetH prog Rows.keepSameRow.laid W):z1H W:=by
 rw[MakeChecks.laidMetH_plain _ _ _ (by kernel_rfl)]at h;have e:(Rows.laid_math_bits_deBruijn64tab:DataW Unit)=Lib.tabData .u8 (Lib.deBruijn64tab.map fun n=>((n:Nat):Int)):=by kernel_rfl
 have A:laidMet prog ((("math/bits.deBruijn64tab",Rows.laid_math_bits_deBruijn64tab):String×DataW Unit):: [("unicode/utf8.acceptRanges",Rows.laid_unicode_utf8_acceptRanges),("unicode/utf8.first",Rows.laid_unicode_utf8_first)]) W:=h;rw[e]at A;have I:prog.globalNamed "math/bits.deBruijn64tab" =some 0:=by kernel_rfl
 have N:=Lib.tabIs_of_head (t:=341) (e:=5) (n:=64) I (by kernel_rfl) underlying341 underlying5 (by kernel_rfl) (by kernel_rfl) A;intro j J;have L:=N.cell I j (by rw[we];exact J);rw[L];rw[wu,wu,uF,wL J];rfl
def q7B(W:World)(v:Value)(L:List LOp):Prop:=∃a n c,v= .slice a n c/\y1L W a n L/\(∀o∈L,o.Ok)/\n<=maxLen
theorem y8O{H:Type}{enc:TypeId×Value->H}{W:World}{A:Nat}{cs:List Value}{x:DataW H×List MemPlace}(h:DataW.trod enc prog W 0 (fun _=>true) true A 22 cs=some x):
  ∃(v:Value) (L:List LOp),cs= [v]/\q7B W v L:=by
 obtain⟨a,n,c,L,e,I,J,N⟩:=q0P h;exact⟨_,L,e,a,n,c,rfl,I,J,N⟩
