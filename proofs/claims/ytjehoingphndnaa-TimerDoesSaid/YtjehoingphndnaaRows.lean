/-
  No cell of these rows narrows 'for every input' (looked for: loops, veiled, ifaces, maps, wideKeys, modest, calm, conditions, laid).
  DERIVED. THE GIVEN ROWS OF THIS SEAT. 4 by the template 'for every input the law returns true; each argument reads behind the call as it read before'; 0 by the template 'total and deterministic' (their statements: YtjehoingphndnaaTotals.lean).
  GIVEN WITH THE SEED: the statements are not yours to turn. If you find one false, say at which input.
  Laid BY PROGRAM, IN A SANDBOX (cutbox-rows.mjs): the forced cells as the released guide's own fill.sh prints them over the translation f47ded719db108c9… (all of the seat's roots in one cut). By AI agents, Wed Nov 11 2026. No macro, syntax, notation, axiom, sorry.
-/
import Derived.Test.YtjehoingphndnaaChecked
import GoSem.Claim
import GoSem.ClaimJoined
import GoSem.ClaimMapViews
import Derived.JoinedTies
import Derived.KernelRfl
namespace Go.Proofs.Ytjehoingphndnaa
/- THE CELL 'sum', in the pinned program and in every row, IS THE sha256 OF THE DUMP (.gsa) THAT YtjehoingphndnaaProg.lean LOADS. Nothing in Lean hashes anything: it is a label: what it is worth is what the hold of that sum in a sandbox is worth. -/
noncomputable def Try.pinned : Pinned := { name := "ytjehoingphndnaa", sum := "f47ded719db108c98d947122f5862e2afa5037c15ab3bfe07339fff0d34b5b12", checked := Try.checked }
namespace Rows
def none {H : Type} : Left H := { results := [], args := [] }

/-- 'draymanlaw14.TimerLate': WHATEVER THE INPUT: true; the input reads as it did. -/
def timerLateSpec : ChangeSpec := { name := "timerLate", fn := fun _ => fun
  | [d1, d2, d3, d4] => { results := [.lit (.bool true)], args := [d1, d2, d3, d4] }
  | _ => none }
def timerLateRow : OpenClaim := { program := "ytjehoingphndnaa", sum := "f47ded719db108c98d947122f5862e2afa5037c15ab3bfe07339fff0d34b5b12", func := "drayman/draymanlaw14.TimerLate", spec := "timerLate", recurses := true, apart := false }
def TimerLateSaid : Prop := timerLateRow.holds Try.pinned (OpenSpec.ofChange timerLateSpec)

/-- ITS FALSE NEIGHBOUR: 'it returns false'. Refute it at one input. -/
def timerLateWrong : ChangeSpec := { name := "timerLate", fn := fun _ => fun
  | [d1, d2, d3, d4] => { results := [.lit (.bool false)], args := [d1, d2, d3, d4] }
  | _ => none }
def TimerLateWrongFalsely : Prop := timerLateRow.holds Try.pinned (OpenSpec.ofChange timerLateWrong)

/-- 'draymanlaw14.TimerApart': WHATEVER THE INPUT: true; the input reads as it did. -/
def timerApartSpec : ChangeSpec := { name := "timerApart", fn := fun _ => fun
  | [d1, d2, d3] => { results := [.lit (.bool true)], args := [d1, d2, d3] }
  | _ => none }
def timerApartRow : OpenClaim := { program := "ytjehoingphndnaa", sum := "f47ded719db108c98d947122f5862e2afa5037c15ab3bfe07339fff0d34b5b12", func := "drayman/draymanlaw14.TimerApart", spec := "timerApart", recurses := true, apart := false }
def TimerApartSaid : Prop := timerApartRow.holds Try.pinned (OpenSpec.ofChange timerApartSpec)

/-- ITS FALSE NEIGHBOUR: 'it returns false'. Refute it at one input. -/
def timerApartWrong : ChangeSpec := { name := "timerApart", fn := fun _ => fun
  | [d1, d2, d3] => { results := [.lit (.bool false)], args := [d1, d2, d3] }
  | _ => none }
def TimerApartWrongFalsely : Prop := timerApartRow.holds Try.pinned (OpenSpec.ofChange timerApartWrong)

/-- 'draymanlaw14.TimerDoes': WHATEVER THE INPUT: true; the input reads as it did. -/
def timerDoesSpec : ChangeSpec := { name := "timerDoes", fn := fun _ => fun
  | [d1, d2] => { results := [.lit (.bool true)], args := [d1, d2] }
  | _ => none }
def timerDoesRow : OpenClaim := { program := "ytjehoingphndnaa", sum := "f47ded719db108c98d947122f5862e2afa5037c15ab3bfe07339fff0d34b5b12", func := "drayman/draymanlaw14.TimerDoes", spec := "timerDoes", recurses := true, apart := false }
def TimerDoesSaid : Prop := timerDoesRow.holds Try.pinned (OpenSpec.ofChange timerDoesSpec)

/-- ITS FALSE NEIGHBOUR: 'it returns false'. Refute it at one input. -/
def timerDoesWrong : ChangeSpec := { name := "timerDoes", fn := fun _ => fun
  | [d1, d2] => { results := [.lit (.bool false)], args := [d1, d2] }
  | _ => none }
def TimerDoesWrongFalsely : Prop := timerDoesRow.holds Try.pinned (OpenSpec.ofChange timerDoesWrong)

/-- 'draymanlaw14.TimerStops': WHATEVER THE INPUT: true; the input reads as it did. -/
def timerStopsSpec : ChangeSpec := { name := "timerStops", fn := fun _ => fun
  | [d1, d2, d3, d4] => { results := [.lit (.bool true)], args := [d1, d2, d3, d4] }
  | _ => none }
def timerStopsRow : OpenClaim := { program := "ytjehoingphndnaa", sum := "f47ded719db108c98d947122f5862e2afa5037c15ab3bfe07339fff0d34b5b12", func := "drayman/draymanlaw14.TimerStops", spec := "timerStops", recurses := true, apart := false }
def TimerStopsSaid : Prop := timerStopsRow.holds Try.pinned (OpenSpec.ofChange timerStopsSpec)

/-- ITS FALSE NEIGHBOUR: 'it returns false'. Refute it at one input. -/
def timerStopsWrong : ChangeSpec := { name := "timerStops", fn := fun _ => fun
  | [d1, d2, d3, d4] => { results := [.lit (.bool false)], args := [d1, d2, d3, d4] }
  | _ => none }
def TimerStopsWrongFalsely : Prop := timerStopsRow.holds Try.pinned (OpenSpec.ofChange timerStopsWrong)

/- THE SECOND FORM. 'bulk': how many values and letters a reading holds, each counted each time it is reached (what is shared counts as often as it is met; a slice's spare places count too). A statement '..UptoSaid' is the law's where the arguments, and the package variables that the reading takes, are together of bulk at most 1048576: NARROWER than '..Said'. Prove '..Said' where nothing that the law and all that it calls make is longer than what came in: it says more and counts as full. Else prove '..UptoSaid'. A law counts once. -/
mutual
def uptoBulk {H : Type} : DataW H → Nat
  | .lit (.string bytes) => bytes.length + 1
  | .lit _ => 1
  | .nil => 1
  | .ptr d => uptoBulk d + 1
  | .slice elems spare => uptoBulkAll elems + uptoBulkAll spare + 1
  | .agg parts => uptoBulkAll parts + 1
  | .iface _ d => uptoBulk d + 1
  | .map entries => uptoBulkEntries entries + 1
  | .held _ => 1
def uptoBulkAll {H : Type} : List (DataW H) → Nat
  | [] => 0
  | d :: r => uptoBulk d + uptoBulkAll r
def uptoBulkEntries {H : Type} : List (Lit × DataW H) → Nat
  | [] => 0
  | x :: r => uptoBulkEntry x + uptoBulkEntries r
def uptoBulkEntry {H : Type} : Lit × DataW H → Nat
  | (.string bytes, d) => bytes.length + uptoBulk d + 1
  | (_, d) => uptoBulk d + 1
 end
def uptoSmall : (H : Type) → List (DataW H) → Bool := fun _ ds => decide (uptoBulkAll ds ≤ 1048576)
def OpenSpec.upto (s : _root_.Go.ChangeSpec) : _root_.Go.OpenSpec := { _root_.Go.OpenSpec.ofChange s with cond := some uptoSmall }

/-- 'draymanlaw14.TimerLate', WHERE WHAT IT READS IS OF BULK AT MOST 1048576: true; the input reads as it did. -/
def timerLateUptoRow : OpenClaim := { program := "ytjehoingphndnaa", sum := "f47ded719db108c98d947122f5862e2afa5037c15ab3bfe07339fff0d34b5b12", func := "drayman/draymanlaw14.TimerLate", spec := "timerLate", recurses := true, apart := false, narrowed := true }
def TimerLateUptoSaid : Prop := timerLateUptoRow.holds Try.pinned (OpenSpec.upto timerLateSpec)

/-- 'draymanlaw14.TimerApart', WHERE WHAT IT READS IS OF BULK AT MOST 1048576: true; the input reads as it did. -/
def timerApartUptoRow : OpenClaim := { program := "ytjehoingphndnaa", sum := "f47ded719db108c98d947122f5862e2afa5037c15ab3bfe07339fff0d34b5b12", func := "drayman/draymanlaw14.TimerApart", spec := "timerApart", recurses := true, apart := false, narrowed := true }
def TimerApartUptoSaid : Prop := timerApartUptoRow.holds Try.pinned (OpenSpec.upto timerApartSpec)

/-- 'draymanlaw14.TimerDoes', WHERE WHAT IT READS IS OF BULK AT MOST 1048576: true; the input reads as it did. -/
def timerDoesUptoRow : OpenClaim := { program := "ytjehoingphndnaa", sum := "f47ded719db108c98d947122f5862e2afa5037c15ab3bfe07339fff0d34b5b12", func := "drayman/draymanlaw14.TimerDoes", spec := "timerDoes", recurses := true, apart := false, narrowed := true }
def TimerDoesUptoSaid : Prop := timerDoesUptoRow.holds Try.pinned (OpenSpec.upto timerDoesSpec)

/-- 'draymanlaw14.TimerStops', WHERE WHAT IT READS IS OF BULK AT MOST 1048576: true; the input reads as it did. -/
def timerStopsUptoRow : OpenClaim := { program := "ytjehoingphndnaa", sum := "f47ded719db108c98d947122f5862e2afa5037c15ab3bfe07339fff0d34b5b12", func := "drayman/draymanlaw14.TimerStops", spec := "timerStops", recurses := true, apart := false, narrowed := true }
def TimerStopsUptoSaid : Prop := timerStopsUptoRow.holds Try.pinned (OpenSpec.upto timerStopsSpec)

end Rows
end Go.Proofs.Ytjehoingphndnaa
