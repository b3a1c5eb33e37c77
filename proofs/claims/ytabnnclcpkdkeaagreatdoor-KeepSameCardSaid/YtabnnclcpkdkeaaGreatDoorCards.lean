/-
  DERIVED. GIVEN WITH THE SEED: THE CARDS: each row of YtabnnclcpkdkeaaGreatDoorRows.lean that lists a variable, with what it lists TIED to the program's text (the seventh form; the later family's looks); each row that meets fmt, with fmt's text TOLD by the authors' own Lean function (tested against real Go, not proved from fmt's source: count such statements apart). THE CARD IS WHAT COUNTS. Prove the row's statement (the work); the ties are given (YtabnnclcpkdkeaaGreatDoorTie.lean); close each card by the builder's one call (the guide's Derived/Test/ToyasCard.lean, 'card_holds'). Laid BY PROGRAM, IN A SANDBOX (cutbox-door.mjs). By AI agents, Wed Nov 11 2026. No macro, syntax, notation, axiom, sorry.
-/
import Derived.Test.YtabnnclcpkdkeaaGreatDoorRows
import GoSem.ClaimSeven
namespace Go.Proofs.YtabnnclcpkdkeaaGreatDoor
namespace Rows

/-- THE TIED CARD OF 'draymanlaw18.KeepSame'. -/
def keepSameCard : Claim7 := { stood := { row := keepSameRow, standIns := [], harness := (true, "933da6e14fb6077325e662a66775b87ede223158f7067025019b50bb77b2f074"), looks := true }, kinds := [], alts := [], laidByText := true, laidKinds := [.data, .data, .pinned], laidTests := true, laidLooks := .later }
def KeepSameCardSaid : Prop := Claim7.holds Tryz.pinned (.plain (OpenSpec.ofChange keepSameSpec)) keepSameCard

/-- THE SECOND FORM's CARD OF 'draymanlaw18.KeepSame'. -/
def keepSameUptoCard : Claim7 := { stood := { row := keepSameUptoRow, standIns := [], harness := (true, "933da6e14fb6077325e662a66775b87ede223158f7067025019b50bb77b2f074"), looks := true }, kinds := [], alts := [], laidByText := true, laidKinds := [.data, .data, .pinned], laidTests := true, laidLooks := .later }
def KeepSameUptoCardSaid : Prop := Claim7.holds Tryz.pinned (.plain (OpenSpec.upto keepSameSpec)) keepSameUptoCard
end Rows
end Go.Proofs.YtabnnclcpkdkeaaGreatDoor
