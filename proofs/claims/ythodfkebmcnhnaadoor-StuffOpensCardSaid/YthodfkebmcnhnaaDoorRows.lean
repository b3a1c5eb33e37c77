/-
  NARROWER THAN 'FOR EVERY INPUT', by the rows' own cells (each row's printed sentence says how): StuffApart: laid · StuffWraps: laid · StuffOpens: laid · StuffBack: laid · StuffOnly: laid · StuffHoles: laid.
  DERIVED. THE GIVEN ROWS OF THIS SEAT. 6 by the template 'for every input the law returns true; each argument reads behind the call as it read before'; 0 by the template 'total and deterministic' (their statements: YthodfkebmcnhnaaDoorTotals.lean).
  GIVEN WITH THE SEED: the statements are not yours to turn. If you find one false, say at which input.
  Laid BY PROGRAM, IN A SANDBOX (cutbox-rows.mjs): the forced cells as the released guide's own fill.sh prints them over the translation e208761bbc69e58e… (all of the seat's roots in one cut). By AI agents, Wed Nov 11 2026. No macro, syntax, notation, axiom, sorry.
-/
import Derived.Test.YthodfkebmcnhnaaDoorChecked
import GoSem.PinnedTables
import GoSem.Claim
import GoSem.ClaimJoined
import GoSem.ClaimMapViews
import Derived.JoinedTies
import Derived.KernelRfl
namespace Go.Proofs.YthodfkebmcnhnaaDoor
/- THE CELL 'sum', in the pinned program and in every row, IS THE sha256 OF THE DUMP (.gsa) THAT YthodfkebmcnhnaaDoorProg.lean LOADS. Nothing in Lean hashes anything: it is a label: what it is worth is what the hold of that sum in a sandbox is worth. -/
noncomputable def Tryd.pinned : Pinned := { name := "ythodfkebmcnhnaadoor", sum := "e208761bbc69e58eb7a6264cf128aa59b5009a923f7ce1a9523413521886968e", checked := Tryd.checked }
namespace Rows
def none {H : Type} : Left H := { results := [], args := [] }

/- WHAT THE LISTED PACKAGE-LEVEL VARIABLES READ AS WHEN THE CALL BEGINS. Each datum BY PROGRAM (the guide's laid-datum.mjs) off the statement by which the dump's own 'gosem.cut.vars' lays the variable. In a bare row this is a premise. The card (YthodfkebmcnhnaaDoorCards.lean) ties it to the program's text. -/
def laid_unicode_utf8_acceptRanges {H : Type} : DataW H := .agg [.agg [.lit (.int .u8 128), .lit (.int .u8 191)], .agg [.lit (.int .u8 160), .lit (.int .u8 191)], .agg [.lit (.int .u8 128), .lit (.int .u8 159)], .agg [.lit (.int .u8 144), .lit (.int .u8 191)], .agg [.lit (.int .u8 128), .lit (.int .u8 143)], .agg [.lit (.int .u8 0), .lit (.int .u8 0)], .agg [.lit (.int .u8 0), .lit (.int .u8 0)], .agg [.lit (.int .u8 0), .lit (.int .u8 0)], .agg [.lit (.int .u8 0), .lit (.int .u8 0)], .agg [.lit (.int .u8 0), .lit (.int .u8 0)], .agg [.lit (.int .u8 0), .lit (.int .u8 0)], .agg [.lit (.int .u8 0), .lit (.int .u8 0)], .agg [.lit (.int .u8 0), .lit (.int .u8 0)], .agg [.lit (.int .u8 0), .lit (.int .u8 0)], .agg [.lit (.int .u8 0), .lit (.int .u8 0)], .agg [.lit (.int .u8 0), .lit (.int .u8 0)]]
/-- One of Go's own tables, pinned by name: the form's constant. -/
def laid_unicode_utf8_first : DataW Unit := Go.Pinned.utf8First

/-- 'draymanlaw09.StuffApart': WHATEVER THE INPUT: true; the input reads as it did. -/
def stuffApartSpec : ChangeSpec := { name := "stuffApart", fn := fun _ => fun
  | [d1, d2] => { results := [.lit (.bool true)], args := [d1, d2] }
  | _ => none }
def stuffApartRow : OpenClaim := { program := "ythodfkebmcnhnaadoor", sum := "e208761bbc69e58eb7a6264cf128aa59b5009a923f7ce1a9523413521886968e", func := "drayman/draymanlaw09.StuffApart", spec := "stuffApart", inPlace := ["internal/bytealg.IndexByte", "internal/bytealg.Index"], unfollowed := true, recurses := true, named := ["unicode/utf8.first", "unicode/utf8.acceptRanges", "internal/bytealg.MaxLen"], apart := false, laid := [("unicode/utf8.acceptRanges", laid_unicode_utf8_acceptRanges), ("unicode/utf8.first", laid_unicode_utf8_first)] }
def StuffApartSaid : Prop := stuffApartRow.holds Tryd.pinned (OpenSpec.ofChange stuffApartSpec)

/-- ITS FALSE NEIGHBOUR: 'it returns false'. Refute it at one input. -/
def stuffApartWrong : ChangeSpec := { name := "stuffApart", fn := fun _ => fun
  | [d1, d2] => { results := [.lit (.bool false)], args := [d1, d2] }
  | _ => none }
def StuffApartWrongFalsely : Prop := stuffApartRow.holds Tryd.pinned (OpenSpec.ofChange stuffApartWrong)

/-- 'draymanlaw09.StuffWraps': WHATEVER THE INPUT: true; the input reads as it did. -/
def stuffWrapsSpec : ChangeSpec := { name := "stuffWraps", fn := fun _ => fun
  | [d] => { results := [.lit (.bool true)], args := [d] }
  | _ => none }
def stuffWrapsRow : OpenClaim := { program := "ythodfkebmcnhnaadoor", sum := "e208761bbc69e58eb7a6264cf128aa59b5009a923f7ce1a9523413521886968e", func := "drayman/draymanlaw09.StuffWraps", spec := "stuffWraps", inPlace := ["internal/bytealg.IndexByte", "internal/bytealg.Index"], unfollowed := true, recurses := true, named := ["unicode/utf8.first", "unicode/utf8.acceptRanges", "internal/bytealg.MaxLen"], apart := false, laid := [("unicode/utf8.acceptRanges", laid_unicode_utf8_acceptRanges), ("unicode/utf8.first", laid_unicode_utf8_first)] }
def StuffWrapsSaid : Prop := stuffWrapsRow.holds Tryd.pinned (OpenSpec.ofChange stuffWrapsSpec)

/-- ITS FALSE NEIGHBOUR: 'it returns false'. Refute it at one input. -/
def stuffWrapsWrong : ChangeSpec := { name := "stuffWraps", fn := fun _ => fun
  | [d] => { results := [.lit (.bool false)], args := [d] }
  | _ => none }
def StuffWrapsWrongFalsely : Prop := stuffWrapsRow.holds Tryd.pinned (OpenSpec.ofChange stuffWrapsWrong)

/-- 'draymanlaw09.StuffOpens': WHATEVER THE INPUT: true; the input reads as it did. -/
def stuffOpensSpec : ChangeSpec := { name := "stuffOpens", fn := fun _ => fun
  | [d] => { results := [.lit (.bool true)], args := [d] }
  | _ => none }
def stuffOpensRow : OpenClaim := { program := "ythodfkebmcnhnaadoor", sum := "e208761bbc69e58eb7a6264cf128aa59b5009a923f7ce1a9523413521886968e", func := "drayman/draymanlaw09.StuffOpens", spec := "stuffOpens", inPlace := ["internal/bytealg.IndexByte", "internal/bytealg.Index"], unfollowed := true, recurses := true, named := ["unicode/utf8.first", "unicode/utf8.acceptRanges", "internal/bytealg.MaxLen"], apart := false, laid := [("unicode/utf8.acceptRanges", laid_unicode_utf8_acceptRanges), ("unicode/utf8.first", laid_unicode_utf8_first)] }
def StuffOpensSaid : Prop := stuffOpensRow.holds Tryd.pinned (OpenSpec.ofChange stuffOpensSpec)

/-- ITS FALSE NEIGHBOUR: 'it returns false'. Refute it at one input. -/
def stuffOpensWrong : ChangeSpec := { name := "stuffOpens", fn := fun _ => fun
  | [d] => { results := [.lit (.bool false)], args := [d] }
  | _ => none }
def StuffOpensWrongFalsely : Prop := stuffOpensRow.holds Tryd.pinned (OpenSpec.ofChange stuffOpensWrong)

/-- 'draymanlaw09.StuffBack': WHATEVER THE INPUT: true; the input reads as it did. -/
def stuffBackSpec : ChangeSpec := { name := "stuffBack", fn := fun _ => fun
  | [d1, d2] => { results := [.lit (.bool true)], args := [d1, d2] }
  | _ => none }
def stuffBackRow : OpenClaim := { program := "ythodfkebmcnhnaadoor", sum := "e208761bbc69e58eb7a6264cf128aa59b5009a923f7ce1a9523413521886968e", func := "drayman/draymanlaw09.StuffBack", spec := "stuffBack", inPlace := ["internal/bytealg.IndexByte", "internal/bytealg.Index"], unfollowed := true, recurses := true, named := ["unicode/utf8.first", "unicode/utf8.acceptRanges", "internal/bytealg.MaxLen"], apart := false, laid := [("unicode/utf8.acceptRanges", laid_unicode_utf8_acceptRanges), ("unicode/utf8.first", laid_unicode_utf8_first)] }
def StuffBackSaid : Prop := stuffBackRow.holds Tryd.pinned (OpenSpec.ofChange stuffBackSpec)

/-- ITS FALSE NEIGHBOUR: 'it returns false'. Refute it at one input. -/
def stuffBackWrong : ChangeSpec := { name := "stuffBack", fn := fun _ => fun
  | [d1, d2] => { results := [.lit (.bool false)], args := [d1, d2] }
  | _ => none }
def StuffBackWrongFalsely : Prop := stuffBackRow.holds Tryd.pinned (OpenSpec.ofChange stuffBackWrong)

/-- 'draymanlaw09.StuffOnly': WHATEVER THE INPUT: true; the input reads as it did. -/
def stuffOnlySpec : ChangeSpec := { name := "stuffOnly", fn := fun _ => fun
  | [d] => { results := [.lit (.bool true)], args := [d] }
  | _ => none }
def stuffOnlyRow : OpenClaim := { program := "ythodfkebmcnhnaadoor", sum := "e208761bbc69e58eb7a6264cf128aa59b5009a923f7ce1a9523413521886968e", func := "drayman/draymanlaw09.StuffOnly", spec := "stuffOnly", inPlace := ["internal/bytealg.IndexByte", "internal/bytealg.Index"], unfollowed := true, recurses := true, named := ["unicode/utf8.first", "unicode/utf8.acceptRanges", "internal/bytealg.MaxLen"], apart := false, laid := [("unicode/utf8.acceptRanges", laid_unicode_utf8_acceptRanges), ("unicode/utf8.first", laid_unicode_utf8_first)] }
def StuffOnlySaid : Prop := stuffOnlyRow.holds Tryd.pinned (OpenSpec.ofChange stuffOnlySpec)

/-- ITS FALSE NEIGHBOUR: 'it returns false'. Refute it at one input. -/
def stuffOnlyWrong : ChangeSpec := { name := "stuffOnly", fn := fun _ => fun
  | [d] => { results := [.lit (.bool false)], args := [d] }
  | _ => none }
def StuffOnlyWrongFalsely : Prop := stuffOnlyRow.holds Tryd.pinned (OpenSpec.ofChange stuffOnlyWrong)

/-- 'draymanlaw09.StuffHoles': WHATEVER THE INPUT: true; the input reads as it did. -/
def stuffHolesSpec : ChangeSpec := { name := "stuffHoles", fn := fun _ => fun
  | [d1, d2] => { results := [.lit (.bool true)], args := [d1, d2] }
  | _ => none }
def stuffHolesRow : OpenClaim := { program := "ythodfkebmcnhnaadoor", sum := "e208761bbc69e58eb7a6264cf128aa59b5009a923f7ce1a9523413521886968e", func := "drayman/draymanlaw09.StuffHoles", spec := "stuffHoles", inPlace := ["internal/bytealg.IndexByte", "internal/bytealg.Index"], unfollowed := true, recurses := true, named := ["unicode/utf8.first", "unicode/utf8.acceptRanges", "internal/bytealg.MaxLen"], apart := false, laid := [("unicode/utf8.acceptRanges", laid_unicode_utf8_acceptRanges), ("unicode/utf8.first", laid_unicode_utf8_first)] }
def StuffHolesSaid : Prop := stuffHolesRow.holds Tryd.pinned (OpenSpec.ofChange stuffHolesSpec)

/-- ITS FALSE NEIGHBOUR: 'it returns false'. Refute it at one input. -/
def stuffHolesWrong : ChangeSpec := { name := "stuffHoles", fn := fun _ => fun
  | [d1, d2] => { results := [.lit (.bool false)], args := [d1, d2] }
  | _ => none }
def StuffHolesWrongFalsely : Prop := stuffHolesRow.holds Tryd.pinned (OpenSpec.ofChange stuffHolesWrong)

/- THE SECOND FORM. 'bulk': how many values and letters a reading holds, each counted each time it is reached (what is shared counts as often as it is met; a slice's spare places count too). A statement '..UptoSaid' is the law's where the arguments, and the package variables that the reading takes, are together of bulk at most 1048576: NARROWER than '..Said'. Prove '..Said' where nothing that the law and all that it calls make is longer than what came in: it says more and counts as full. Else prove '..UptoSaid'. A law counts once. -/
mutual
def uptoBulk {H : Type} : DataW H → Nat
  | .lit (.string bytes) => bytes.length + 1
  | .lit _ => 1
  | .nil => 1
  | .ptr d => uptoBulk d + 1
  | .slice elems spare => uptoBulkAll elems + uptoBulkAll spare + 1
  | .agg parts => uptoBulkAll parts + 1
  | .iface _ d => uptoBulk d + 1
  | .map entries => uptoBulkEntries entries + 1
  | .held _ => 1
def uptoBulkAll {H : Type} : List (DataW H) → Nat
  | [] => 0
  | d :: r => uptoBulk d + uptoBulkAll r
def uptoBulkEntries {H : Type} : List (Lit × DataW H) → Nat
  | [] => 0
  | x :: r => uptoBulkEntry x + uptoBulkEntries r
def uptoBulkEntry {H : Type} : Lit × DataW H → Nat
  | (.string bytes, d) => bytes.length + uptoBulk d + 1
  | (_, d) => uptoBulk d + 1
 end
def uptoSmall : (H : Type) → List (DataW H) → Bool := fun _ ds => decide (uptoBulkAll ds ≤ 1048576)
def OpenSpec.upto (s : _root_.Go.ChangeSpec) : _root_.Go.OpenSpec := { _root_.Go.OpenSpec.ofChange s with cond := some uptoSmall }

/-- 'draymanlaw09.StuffApart', WHERE WHAT IT READS IS OF BULK AT MOST 1048576: true; the input reads as it did. -/
def stuffApartUptoRow : OpenClaim := { program := "ythodfkebmcnhnaadoor", sum := "e208761bbc69e58eb7a6264cf128aa59b5009a923f7ce1a9523413521886968e", func := "drayman/draymanlaw09.StuffApart", spec := "stuffApart", inPlace := ["internal/bytealg.IndexByte", "internal/bytealg.Index"], unfollowed := true, recurses := true, named := ["unicode/utf8.first", "unicode/utf8.acceptRanges", "internal/bytealg.MaxLen"], apart := false, laid := [("unicode/utf8.acceptRanges", laid_unicode_utf8_acceptRanges), ("unicode/utf8.first", laid_unicode_utf8_first)], narrowed := true }
def StuffApartUptoSaid : Prop := stuffApartUptoRow.holds Tryd.pinned (OpenSpec.upto stuffApartSpec)

/-- 'draymanlaw09.StuffWraps', WHERE WHAT IT READS IS OF BULK AT MOST 1048576: true; the input reads as it did. -/
def stuffWrapsUptoRow : OpenClaim := { program := "ythodfkebmcnhnaadoor", sum := "e208761bbc69e58eb7a6264cf128aa59b5009a923f7ce1a9523413521886968e", func := "drayman/draymanlaw09.StuffWraps", spec := "stuffWraps", inPlace := ["internal/bytealg.IndexByte", "internal/bytealg.Index"], unfollowed := true, recurses := true, named := ["unicode/utf8.first", "unicode/utf8.acceptRanges", "internal/bytealg.MaxLen"], apart := false, laid := [("unicode/utf8.acceptRanges", laid_unicode_utf8_acceptRanges), ("unicode/utf8.first", laid_unicode_utf8_first)], narrowed := true }
def StuffWrapsUptoSaid : Prop := stuffWrapsUptoRow.holds Tryd.pinned (OpenSpec.upto stuffWrapsSpec)

/-- 'draymanlaw09.StuffOpens', WHERE WHAT IT READS IS OF BULK AT MOST 1048576: true; the input reads as it did. -/
def stuffOpensUptoRow : OpenClaim := { program := "ythodfkebmcnhnaadoor", sum := "e208761bbc69e58eb7a6264cf128aa59b5009a923f7ce1a9523413521886968e", func := "drayman/draymanlaw09.StuffOpens", spec := "stuffOpens", inPlace := ["internal/bytealg.IndexByte", "internal/bytealg.Index"], unfollowed := true, recurses := true, named := ["unicode/utf8.first", "unicode/utf8.acceptRanges", "internal/bytealg.MaxLen"], apart := false, laid := [("unicode/utf8.acceptRanges", laid_unicode_utf8_acceptRanges), ("unicode/utf8.first", laid_unicode_utf8_first)], narrowed := true }
def StuffOpensUptoSaid : Prop := stuffOpensUptoRow.holds Tryd.pinned (OpenSpec.upto stuffOpensSpec)

/-- 'draymanlaw09.StuffBack', WHERE WHAT IT READS IS OF BULK AT MOST 1048576: true; the input reads as it did. -/
def stuffBackUptoRow : OpenClaim := { program := "ythodfkebmcnhnaadoor", sum := "e208761bbc69e58eb7a6264cf128aa59b5009a923f7ce1a9523413521886968e", func := "drayman/draymanlaw09.StuffBack", spec := "stuffBack", inPlace := ["internal/bytealg.IndexByte", "internal/bytealg.Index"], unfollowed := true, recurses := true, named := ["unicode/utf8.first", "unicode/utf8.acceptRanges", "internal/bytealg.MaxLen"], apart := false, laid := [("unicode/utf8.acceptRanges", laid_unicode_utf8_acceptRanges), ("unicode/utf8.first", laid_unicode_utf8_first)], narrowed := true }
def StuffBackUptoSaid : Prop := stuffBackUptoRow.holds Tryd.pinned (OpenSpec.upto stuffBackSpec)

/-- 'draymanlaw09.StuffOnly', WHERE WHAT IT READS IS OF BULK AT MOST 1048576: true; the input reads as it did. -/
def stuffOnlyUptoRow : OpenClaim := { program := "ythodfkebmcnhnaadoor", sum := "e208761bbc69e58eb7a6264cf128aa59b5009a923f7ce1a9523413521886968e", func := "drayman/draymanlaw09.StuffOnly", spec := "stuffOnly", inPlace := ["internal/bytealg.IndexByte", "internal/bytealg.Index"], unfollowed := true, recurses := true, named := ["unicode/utf8.first", "unicode/utf8.acceptRanges", "internal/bytealg.MaxLen"], apart := false, laid := [("unicode/utf8.acceptRanges", laid_unicode_utf8_acceptRanges), ("unicode/utf8.first", laid_unicode_utf8_first)], narrowed := true }
def StuffOnlyUptoSaid : Prop := stuffOnlyUptoRow.holds Tryd.pinned (OpenSpec.upto stuffOnlySpec)

/-- 'draymanlaw09.StuffHoles', WHERE WHAT IT READS IS OF BULK AT MOST 1048576: true; the input reads as it did. -/
def stuffHolesUptoRow : OpenClaim := { program := "ythodfkebmcnhnaadoor", sum := "e208761bbc69e58eb7a6264cf128aa59b5009a923f7ce1a9523413521886968e", func := "drayman/draymanlaw09.StuffHoles", spec := "stuffHoles", inPlace := ["internal/bytealg.IndexByte", "internal/bytealg.Index"], unfollowed := true, recurses := true, named := ["unicode/utf8.first", "unicode/utf8.acceptRanges", "internal/bytealg.MaxLen"], apart := false, laid := [("unicode/utf8.acceptRanges", laid_unicode_utf8_acceptRanges), ("unicode/utf8.first", laid_unicode_utf8_first)], narrowed := true }
def StuffHolesUptoSaid : Prop := stuffHolesUptoRow.holds Tryd.pinned (OpenSpec.upto stuffHolesSpec)

end Rows
end Go.Proofs.YthodfkebmcnhnaaDoor
