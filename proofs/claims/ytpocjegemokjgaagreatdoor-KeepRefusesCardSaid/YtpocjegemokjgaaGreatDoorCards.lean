/-
  DERIVED. GIVEN WITH THE SEED: THE CARDS: each row of YtpocjegemokjgaaGreatDoorRows.lean that lists a variable, with what it lists TIED to the program's text (the seventh form; the later family's looks); each row that meets fmt, with fmt's text TOLD by the authors' own Lean function (tested against real Go, not proved from fmt's source: count such statements apart). THE CARD IS WHAT COUNTS. Prove the row's statement (the work); the ties are given (YtpocjegemokjgaaGreatDoorTie.lean); close each card by the builder's one call (the guide's Derived/Test/ToyasCard.lean, 'card_holds'). Laid BY PROGRAM, IN A SANDBOX (cutbox-door.mjs). By AI agents, Wed Nov 11 2026. No macro, syntax, notation, axiom, sorry.
-/
import Derived.Test.YtpocjegemokjgaaGreatDoorRows
import GoSem.ClaimSeven
namespace Go.Proofs.YtpocjegemokjgaaGreatDoor
namespace Rows

/-- THE TIED CARD OF 'draymanlaw18.KeepRefuses'. -/
def keepRefusesCard : Claim7 := { stood := { row := keepRefusesRow, standIns := [], harness := (true, "3a3135ef4b32cb6edca065fd3af986fd019f10820361a26a9e0d8c96af7dcee1"), looks := true }, kinds := [], alts := [], laidByText := true, laidKinds := [.data, .data, .pinned], laidTests := true, laidLooks := .later }
def KeepRefusesCardSaid : Prop := Claim7.holds Tryz.pinned (.plain (OpenSpec.ofChange keepRefusesSpec)) keepRefusesCard

/-- THE SECOND FORM's CARD OF 'draymanlaw18.KeepRefuses'. -/
def keepRefusesUptoCard : Claim7 := { stood := { row := keepRefusesUptoRow, standIns := [], harness := (true, "3a3135ef4b32cb6edca065fd3af986fd019f10820361a26a9e0d8c96af7dcee1"), looks := true }, kinds := [], alts := [], laidByText := true, laidKinds := [.data, .data, .pinned], laidTests := true, laidLooks := .later }
def KeepRefusesUptoCardSaid : Prop := Claim7.holds Tryz.pinned (.plain (OpenSpec.upto keepRefusesSpec)) keepRefusesUptoCard
end Rows
end Go.Proofs.YtpocjegemokjgaaGreatDoor
