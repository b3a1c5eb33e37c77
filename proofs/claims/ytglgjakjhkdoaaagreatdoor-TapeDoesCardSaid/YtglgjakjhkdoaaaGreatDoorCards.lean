/-
  DERIVED. GIVEN WITH THE SEED: THE CARDS: each row of YtglgjakjhkdoaaaGreatDoorRows.lean that lists a variable, with what it lists TIED to the program's text (the seventh form; the later family's looks); each row that meets fmt, with fmt's text TOLD by the authors' own Lean function (tested against real Go, not proved from fmt's source: count such statements apart). THE CARD IS WHAT COUNTS. Prove the row's statement (the work); the ties are given (YtglgjakjhkdoaaaGreatDoorTie.lean); close each card by the builder's one call (the guide's Derived/Test/ToyasCard.lean, 'card_holds'). Laid BY PROGRAM, IN A SANDBOX (cutbox-door.mjs). By AI agents, Wed Nov 11 2026. No macro, syntax, notation, axiom, sorry.
-/
import Derived.Test.YtglgjakjhkdoaaaGreatDoorRows
import GoSem.ClaimSeven
namespace Go.Proofs.YtglgjakjhkdoaaaGreatDoor
namespace Rows

/-- THE TIED CARD OF 'draymanlaw10.TapeDoes'. -/
def tapeDoesCard : Claim7 := { stood := { row := tapeDoesRow, standIns := [], harness := (true, "e0a7aea3da960d532d3ec521d199be32c75827e3a2f4caf66041d362f7c14ed0"), looks := false }, kinds := [], alts := [], laidByText := true, laidKinds := [.data, .pinned], laidTests := true, laidLooks := .later }
def TapeDoesCardSaid : Prop := Claim7.holds Tryz.pinned (.plain (OpenSpec.ofChange tapeDoesSpec)) tapeDoesCard

/-- THE SECOND FORM's CARD OF 'draymanlaw10.TapeDoes'. -/
def tapeDoesUptoCard : Claim7 := { stood := { row := tapeDoesUptoRow, standIns := [], harness := (true, "e0a7aea3da960d532d3ec521d199be32c75827e3a2f4caf66041d362f7c14ed0"), looks := false }, kinds := [], alts := [], laidByText := true, laidKinds := [.data, .pinned], laidTests := true, laidLooks := .later }
def TapeDoesUptoCardSaid : Prop := Claim7.holds Tryz.pinned (.plain (OpenSpec.upto tapeDoesSpec)) tapeDoesUptoCard
end Rows
end Go.Proofs.YtglgjakjhkdoaaaGreatDoor
