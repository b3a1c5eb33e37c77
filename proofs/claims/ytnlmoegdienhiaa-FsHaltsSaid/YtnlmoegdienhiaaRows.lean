/-
  No cell of these rows narrows 'for every input' (looked for: loops, veiled, ifaces, maps, wideKeys, modest, calm, conditions, laid).
  DERIVED. THE GIVEN ROWS OF THIS SEAT. 6 by the template 'for every input the law returns true; each argument reads behind the call as it read before'; 0 by the template 'total and deterministic' (their statements: YtnlmoegdienhiaaTotals.lean).
  GIVEN WITH THE SEED: the statements are not yours to turn. If you find one false, say at which input.
  Laid BY PROGRAM, IN A SANDBOX (cutbox-rows.mjs): the forced cells as the released guide's own fill.sh prints them over the translation 6afff49b713a2b77… (all of the seat's roots in one cut). By AI agents, Wed Nov 11 2026. No macro, syntax, notation, axiom, sorry.
-/
import Derived.Test.YtnlmoegdienhiaaChecked
import GoSem.Claim
import GoSem.ClaimJoined
import GoSem.ClaimMapViews
import Derived.JoinedTies
import Derived.KernelRfl
namespace Go.Proofs.Ytnlmoegdienhiaa
/- THE CELL 'sum', in the pinned program and in every row, IS THE sha256 OF THE DUMP (.gsa) THAT YtnlmoegdienhiaaProg.lean LOADS. Nothing in Lean hashes anything: it is a label: what it is worth is what the hold of that sum in a sandbox is worth. -/
noncomputable def Try.pinned : Pinned := { name := "ytnlmoegdienhiaa", sum := "6afff49b713a2b77f2790c837ecd41f3e3fe5ea69a350dfa7764faa4d0a8b60b", checked := Try.checked }
namespace Rows
def none {H : Type} : Left H := { results := [], args := [] }

/-- 'draymanlaw08.FsLasts': WHATEVER THE INPUT: true; the input reads as it did. -/
def fsLastsSpec : ChangeSpec := { name := "fsLasts", fn := fun _ => fun
  | [d1, d2, d3, d4] => { results := [.lit (.bool true)], args := [d1, d2, d3, d4] }
  | _ => none }
def fsLastsRow : OpenClaim := { program := "ytnlmoegdienhiaa", sum := "6afff49b713a2b77f2790c837ecd41f3e3fe5ea69a350dfa7764faa4d0a8b60b", func := "drayman/draymanlaw08.FsLasts", spec := "fsLasts", unfollowed := true, recurses := true, apart := false }
def FsLastsSaid : Prop := fsLastsRow.holds Try.pinned (OpenSpec.ofChange fsLastsSpec)

/-- ITS FALSE NEIGHBOUR: 'it returns false'. Refute it at one input. -/
def fsLastsWrong : ChangeSpec := { name := "fsLasts", fn := fun _ => fun
  | [d1, d2, d3, d4] => { results := [.lit (.bool false)], args := [d1, d2, d3, d4] }
  | _ => none }
def FsLastsWrongFalsely : Prop := fsLastsRow.holds Try.pinned (OpenSpec.ofChange fsLastsWrong)

/-- 'draymanlaw08.FsOpens': WHATEVER THE INPUT: true; the input reads as it did. -/
def fsOpensSpec : ChangeSpec := { name := "fsOpens", fn := fun _ => fun
  | [d1, d2] => { results := [.lit (.bool true)], args := [d1, d2] }
  | _ => none }
def fsOpensRow : OpenClaim := { program := "ytnlmoegdienhiaa", sum := "6afff49b713a2b77f2790c837ecd41f3e3fe5ea69a350dfa7764faa4d0a8b60b", func := "drayman/draymanlaw08.FsOpens", spec := "fsOpens", unfollowed := true, recurses := true, apart := false }
def FsOpensSaid : Prop := fsOpensRow.holds Try.pinned (OpenSpec.ofChange fsOpensSpec)

/-- ITS FALSE NEIGHBOUR: 'it returns false'. Refute it at one input. -/
def fsOpensWrong : ChangeSpec := { name := "fsOpens", fn := fun _ => fun
  | [d1, d2] => { results := [.lit (.bool false)], args := [d1, d2] }
  | _ => none }
def FsOpensWrongFalsely : Prop := fsOpensRow.holds Try.pinned (OpenSpec.ofChange fsOpensWrong)

/-- 'draymanlaw08.FsMoves': WHATEVER THE INPUT: true; the input reads as it did. -/
def fsMovesSpec : ChangeSpec := { name := "fsMoves", fn := fun _ => fun
  | [d1, d2, d3] => { results := [.lit (.bool true)], args := [d1, d2, d3] }
  | _ => none }
def fsMovesRow : OpenClaim := { program := "ytnlmoegdienhiaa", sum := "6afff49b713a2b77f2790c837ecd41f3e3fe5ea69a350dfa7764faa4d0a8b60b", func := "drayman/draymanlaw08.FsMoves", spec := "fsMoves", unfollowed := true, recurses := true, apart := false }
def FsMovesSaid : Prop := fsMovesRow.holds Try.pinned (OpenSpec.ofChange fsMovesSpec)

/-- ITS FALSE NEIGHBOUR: 'it returns false'. Refute it at one input. -/
def fsMovesWrong : ChangeSpec := { name := "fsMoves", fn := fun _ => fun
  | [d1, d2, d3] => { results := [.lit (.bool false)], args := [d1, d2, d3] }
  | _ => none }
def FsMovesWrongFalsely : Prop := fsMovesRow.holds Try.pinned (OpenSpec.ofChange fsMovesWrong)

/-- 'draymanlaw08.FsRoom': WHATEVER THE INPUT: true; the input reads as it did. -/
def fsRoomSpec : ChangeSpec := { name := "fsRoom", fn := fun _ => fun
  | [d1, d2] => { results := [.lit (.bool true)], args := [d1, d2] }
  | _ => none }
def fsRoomRow : OpenClaim := { program := "ytnlmoegdienhiaa", sum := "6afff49b713a2b77f2790c837ecd41f3e3fe5ea69a350dfa7764faa4d0a8b60b", func := "drayman/draymanlaw08.FsRoom", spec := "fsRoom", unfollowed := true, recurses := true, apart := false }
def FsRoomSaid : Prop := fsRoomRow.holds Try.pinned (OpenSpec.ofChange fsRoomSpec)

/-- ITS FALSE NEIGHBOUR: 'it returns false'. Refute it at one input. -/
def fsRoomWrong : ChangeSpec := { name := "fsRoom", fn := fun _ => fun
  | [d1, d2] => { results := [.lit (.bool false)], args := [d1, d2] }
  | _ => none }
def FsRoomWrongFalsely : Prop := fsRoomRow.holds Try.pinned (OpenSpec.ofChange fsRoomWrong)

/-- 'draymanlaw08.FsHalts': WHATEVER THE INPUT: true; the input reads as it did. -/
def fsHaltsSpec : ChangeSpec := { name := "fsHalts", fn := fun _ => fun
  | [d1, d2, d3] => { results := [.lit (.bool true)], args := [d1, d2, d3] }
  | _ => none }
def fsHaltsRow : OpenClaim := { program := "ytnlmoegdienhiaa", sum := "6afff49b713a2b77f2790c837ecd41f3e3fe5ea69a350dfa7764faa4d0a8b60b", func := "drayman/draymanlaw08.FsHalts", spec := "fsHalts", unfollowed := true, recurses := true, apart := false }
def FsHaltsSaid : Prop := fsHaltsRow.holds Try.pinned (OpenSpec.ofChange fsHaltsSpec)

/-- ITS FALSE NEIGHBOUR: 'it returns false'. Refute it at one input. -/
def fsHaltsWrong : ChangeSpec := { name := "fsHalts", fn := fun _ => fun
  | [d1, d2, d3] => { results := [.lit (.bool false)], args := [d1, d2, d3] }
  | _ => none }
def FsHaltsWrongFalsely : Prop := fsHaltsRow.holds Try.pinned (OpenSpec.ofChange fsHaltsWrong)

/-- 'draymanlaw08.FsDoes': WHATEVER THE INPUT: true; the input reads as it did. -/
def fsDoesSpec : ChangeSpec := { name := "fsDoes", fn := fun _ => fun
  | [d1, d2] => { results := [.lit (.bool true)], args := [d1, d2] }
  | _ => none }
def fsDoesRow : OpenClaim := { program := "ytnlmoegdienhiaa", sum := "6afff49b713a2b77f2790c837ecd41f3e3fe5ea69a350dfa7764faa4d0a8b60b", func := "drayman/draymanlaw08.FsDoes", spec := "fsDoes", unfollowed := true, recurses := true, apart := false }
def FsDoesSaid : Prop := fsDoesRow.holds Try.pinned (OpenSpec.ofChange fsDoesSpec)

/-- ITS FALSE NEIGHBOUR: 'it returns false'. Refute it at one input. -/
def fsDoesWrong : ChangeSpec := { name := "fsDoes", fn := fun _ => fun
  | [d1, d2] => { results := [.lit (.bool false)], args := [d1, d2] }
  | _ => none }
def FsDoesWrongFalsely : Prop := fsDoesRow.holds Try.pinned (OpenSpec.ofChange fsDoesWrong)

/- THE SECOND FORM. 'bulk': how many values and letters a reading holds, each counted each time it is reached (what is shared counts as often as it is met; a slice's spare places count too). A statement '..UptoSaid' is the law's where the arguments, and the package variables that the reading takes, are together of bulk at most 1048576: NARROWER than '..Said'. Prove '..Said' where nothing that the law and all that it calls make is longer than what came in: it says more and counts as full. Else prove '..UptoSaid'. A law counts once. -/
mutual
def uptoBulk {H : Type} : DataW H → Nat
  | .lit (.string bytes) => bytes.length + 1
  | .lit _ => 1
  | .nil => 1
  | .ptr d => uptoBulk d + 1
  | .slice elems spare => uptoBulkAll elems + uptoBulkAll spare + 1
  | .agg parts => uptoBulkAll parts + 1
  | .iface _ d => uptoBulk d + 1
  | .map entries => uptoBulkEntries entries + 1
  | .held _ => 1
def uptoBulkAll {H : Type} : List (DataW H) → Nat
  | [] => 0
  | d :: r => uptoBulk d + uptoBulkAll r
def uptoBulkEntries {H : Type} : List (Lit × DataW H) → Nat
  | [] => 0
  | x :: r => uptoBulkEntry x + uptoBulkEntries r
def uptoBulkEntry {H : Type} : Lit × DataW H → Nat
  | (.string bytes, d) => bytes.length + uptoBulk d + 1
  | (_, d) => uptoBulk d + 1
 end
def uptoSmall : (H : Type) → List (DataW H) → Bool := fun _ ds => decide (uptoBulkAll ds ≤ 1048576)
def OpenSpec.upto (s : _root_.Go.ChangeSpec) : _root_.Go.OpenSpec := { _root_.Go.OpenSpec.ofChange s with cond := some uptoSmall }

/-- 'draymanlaw08.FsLasts', WHERE WHAT IT READS IS OF BULK AT MOST 1048576: true; the input reads as it did. -/
def fsLastsUptoRow : OpenClaim := { program := "ytnlmoegdienhiaa", sum := "6afff49b713a2b77f2790c837ecd41f3e3fe5ea69a350dfa7764faa4d0a8b60b", func := "drayman/draymanlaw08.FsLasts", spec := "fsLasts", unfollowed := true, recurses := true, apart := false, narrowed := true }
def FsLastsUptoSaid : Prop := fsLastsUptoRow.holds Try.pinned (OpenSpec.upto fsLastsSpec)

/-- 'draymanlaw08.FsOpens', WHERE WHAT IT READS IS OF BULK AT MOST 1048576: true; the input reads as it did. -/
def fsOpensUptoRow : OpenClaim := { program := "ytnlmoegdienhiaa", sum := "6afff49b713a2b77f2790c837ecd41f3e3fe5ea69a350dfa7764faa4d0a8b60b", func := "drayman/draymanlaw08.FsOpens", spec := "fsOpens", unfollowed := true, recurses := true, apart := false, narrowed := true }
def FsOpensUptoSaid : Prop := fsOpensUptoRow.holds Try.pinned (OpenSpec.upto fsOpensSpec)

/-- 'draymanlaw08.FsMoves', WHERE WHAT IT READS IS OF BULK AT MOST 1048576: true; the input reads as it did. -/
def fsMovesUptoRow : OpenClaim := { program := "ytnlmoegdienhiaa", sum := "6afff49b713a2b77f2790c837ecd41f3e3fe5ea69a350dfa7764faa4d0a8b60b", func := "drayman/draymanlaw08.FsMoves", spec := "fsMoves", unfollowed := true, recurses := true, apart := false, narrowed := true }
def FsMovesUptoSaid : Prop := fsMovesUptoRow.holds Try.pinned (OpenSpec.upto fsMovesSpec)

/-- 'draymanlaw08.FsRoom', WHERE WHAT IT READS IS OF BULK AT MOST 1048576: true; the input reads as it did. -/
def fsRoomUptoRow : OpenClaim := { program := "ytnlmoegdienhiaa", sum := "6afff49b713a2b77f2790c837ecd41f3e3fe5ea69a350dfa7764faa4d0a8b60b", func := "drayman/draymanlaw08.FsRoom", spec := "fsRoom", unfollowed := true, recurses := true, apart := false, narrowed := true }
def FsRoomUptoSaid : Prop := fsRoomUptoRow.holds Try.pinned (OpenSpec.upto fsRoomSpec)

/-- 'draymanlaw08.FsHalts', WHERE WHAT IT READS IS OF BULK AT MOST 1048576: true; the input reads as it did. -/
def fsHaltsUptoRow : OpenClaim := { program := "ytnlmoegdienhiaa", sum := "6afff49b713a2b77f2790c837ecd41f3e3fe5ea69a350dfa7764faa4d0a8b60b", func := "drayman/draymanlaw08.FsHalts", spec := "fsHalts", unfollowed := true, recurses := true, apart := false, narrowed := true }
def FsHaltsUptoSaid : Prop := fsHaltsUptoRow.holds Try.pinned (OpenSpec.upto fsHaltsSpec)

/-- 'draymanlaw08.FsDoes', WHERE WHAT IT READS IS OF BULK AT MOST 1048576: true; the input reads as it did. -/
def fsDoesUptoRow : OpenClaim := { program := "ytnlmoegdienhiaa", sum := "6afff49b713a2b77f2790c837ecd41f3e3fe5ea69a350dfa7764faa4d0a8b60b", func := "drayman/draymanlaw08.FsDoes", spec := "fsDoes", unfollowed := true, recurses := true, apart := false, narrowed := true }
def FsDoesUptoSaid : Prop := fsDoesUptoRow.holds Try.pinned (OpenSpec.upto fsDoesSpec)

end Rows
end Go.Proofs.Ytnlmoegdienhiaa
