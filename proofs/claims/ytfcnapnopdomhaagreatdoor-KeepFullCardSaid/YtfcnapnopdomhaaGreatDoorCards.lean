/-
  DERIVED. GIVEN WITH THE SEED: THE CARDS: each row of YtfcnapnopdomhaaGreatDoorRows.lean that lists a variable, with what it lists TIED to the program's text (the seventh form; the later family's looks); each row that meets fmt, with fmt's text TOLD by the authors' own Lean function (tested against real Go, not proved from fmt's source: count such statements apart). THE CARD IS WHAT COUNTS. Prove the row's statement (the work); the ties are given (YtfcnapnopdomhaaGreatDoorTie.lean); close each card by the builder's one call (the guide's Derived/Test/ToyasCard.lean, 'card_holds'). Laid BY PROGRAM, IN A SANDBOX (cutbox-door.mjs). By AI agents, Wed Nov 11 2026. No macro, syntax, notation, axiom, sorry.
-/
import Derived.Test.YtfcnapnopdomhaaGreatDoorRows
import GoSem.ClaimSeven
namespace Go.Proofs.YtfcnapnopdomhaaGreatDoor
namespace Rows

/-- THE TIED CARD OF 'draymanlaw18.KeepFull'. -/
def keepFullCard : Claim7 := { stood := { row := keepFullRow, standIns := [], harness := (true, "78d75ac4598d3a5a1c02bc668b687222219c68a62719af5c775d249fb2060df5"), looks := true }, kinds := [], alts := [], laidByText := true, laidKinds := [.data, .data, .pinned], laidTests := true, laidLooks := .later }
def KeepFullCardSaid : Prop := Claim7.holds Tryz.pinned (.plain (OpenSpec.ofChange keepFullSpec)) keepFullCard

/-- THE TIED CARD OF 'draymanlaw18.KeepRefuses'. -/
def keepRefusesCard : Claim7 := { stood := { row := keepRefusesRow, standIns := [], harness := (true, "78d75ac4598d3a5a1c02bc668b687222219c68a62719af5c775d249fb2060df5"), looks := true }, kinds := [], alts := [], laidByText := true, laidKinds := [.data, .data, .pinned], laidTests := true, laidLooks := .later }
def KeepRefusesCardSaid : Prop := Claim7.holds Tryz.pinned (.plain (OpenSpec.ofChange keepRefusesSpec)) keepRefusesCard

/-- THE TIED CARD OF 'draymanlaw18.KeepDoes'. -/
def keepDoesCard : Claim7 := { stood := { row := keepDoesRow, standIns := [], harness := (true, "78d75ac4598d3a5a1c02bc668b687222219c68a62719af5c775d249fb2060df5"), looks := true }, kinds := [], alts := [], laidByText := true, laidKinds := [.data, .data, .pinned], laidTests := true, laidLooks := .later }
def KeepDoesCardSaid : Prop := Claim7.holds Tryz.pinned (.plain (OpenSpec.ofChange keepDoesSpec)) keepDoesCard

/-- THE TIED CARD OF 'draymanlaw18.KeepOpens'. -/
def keepOpensCard : Claim7 := { stood := { row := keepOpensRow, standIns := [], harness := (true, "78d75ac4598d3a5a1c02bc668b687222219c68a62719af5c775d249fb2060df5"), looks := true }, kinds := [], alts := [], laidByText := true, laidKinds := [.data, .data, .pinned], laidTests := true, laidLooks := .later }
def KeepOpensCardSaid : Prop := Claim7.holds Tryz.pinned (.plain (OpenSpec.ofChange keepOpensSpec)) keepOpensCard

/-- THE TIED CARD OF 'draymanlaw18.KeepSame'. -/
def keepSameCard : Claim7 := { stood := { row := keepSameRow, standIns := [], harness := (true, "78d75ac4598d3a5a1c02bc668b687222219c68a62719af5c775d249fb2060df5"), looks := true }, kinds := [], alts := [], laidByText := true, laidKinds := [.data, .data, .pinned], laidTests := true, laidLooks := .later }
def KeepSameCardSaid : Prop := Claim7.holds Tryz.pinned (.plain (OpenSpec.ofChange keepSameSpec)) keepSameCard

/-- THE TIED CARD OF 'draymanlaw18.KeepLasts'. -/
def keepLastsCard : Claim7 := { stood := { row := keepLastsRow, standIns := [], harness := (true, "78d75ac4598d3a5a1c02bc668b687222219c68a62719af5c775d249fb2060df5"), looks := true }, kinds := [], alts := [], laidByText := true, laidKinds := [.data, .data, .pinned], laidTests := true, laidLooks := .later }
def KeepLastsCardSaid : Prop := Claim7.holds Tryz.pinned (.plain (OpenSpec.ofChange keepLastsSpec)) keepLastsCard

/-- THE SECOND FORM's CARD OF 'draymanlaw18.KeepFull'. -/
def keepFullUptoCard : Claim7 := { stood := { row := keepFullUptoRow, standIns := [], harness := (true, "78d75ac4598d3a5a1c02bc668b687222219c68a62719af5c775d249fb2060df5"), looks := true }, kinds := [], alts := [], laidByText := true, laidKinds := [.data, .data, .pinned], laidTests := true, laidLooks := .later }
def KeepFullUptoCardSaid : Prop := Claim7.holds Tryz.pinned (.plain (OpenSpec.upto keepFullSpec)) keepFullUptoCard

/-- THE SECOND FORM's CARD OF 'draymanlaw18.KeepRefuses'. -/
def keepRefusesUptoCard : Claim7 := { stood := { row := keepRefusesUptoRow, standIns := [], harness := (true, "78d75ac4598d3a5a1c02bc668b687222219c68a62719af5c775d249fb2060df5"), looks := true }, kinds := [], alts := [], laidByText := true, laidKinds := [.data, .data, .pinned], laidTests := true, laidLooks := .later }
def KeepRefusesUptoCardSaid : Prop := Claim7.holds Tryz.pinned (.plain (OpenSpec.upto keepRefusesSpec)) keepRefusesUptoCard

/-- THE SECOND FORM's CARD OF 'draymanlaw18.KeepDoes'. -/
def keepDoesUptoCard : Claim7 := { stood := { row := keepDoesUptoRow, standIns := [], harness := (true, "78d75ac4598d3a5a1c02bc668b687222219c68a62719af5c775d249fb2060df5"), looks := true }, kinds := [], alts := [], laidByText := true, laidKinds := [.data, .data, .pinned], laidTests := true, laidLooks := .later }
def KeepDoesUptoCardSaid : Prop := Claim7.holds Tryz.pinned (.plain (OpenSpec.upto keepDoesSpec)) keepDoesUptoCard

/-- THE SECOND FORM's CARD OF 'draymanlaw18.KeepOpens'. -/
def keepOpensUptoCard : Claim7 := { stood := { row := keepOpensUptoRow, standIns := [], harness := (true, "78d75ac4598d3a5a1c02bc668b687222219c68a62719af5c775d249fb2060df5"), looks := true }, kinds := [], alts := [], laidByText := true, laidKinds := [.data, .data, .pinned], laidTests := true, laidLooks := .later }
def KeepOpensUptoCardSaid : Prop := Claim7.holds Tryz.pinned (.plain (OpenSpec.upto keepOpensSpec)) keepOpensUptoCard

/-- THE SECOND FORM's CARD OF 'draymanlaw18.KeepSame'. -/
def keepSameUptoCard : Claim7 := { stood := { row := keepSameUptoRow, standIns := [], harness := (true, "78d75ac4598d3a5a1c02bc668b687222219c68a62719af5c775d249fb2060df5"), looks := true }, kinds := [], alts := [], laidByText := true, laidKinds := [.data, .data, .pinned], laidTests := true, laidLooks := .later }
def KeepSameUptoCardSaid : Prop := Claim7.holds Tryz.pinned (.plain (OpenSpec.upto keepSameSpec)) keepSameUptoCard

/-- THE SECOND FORM's CARD OF 'draymanlaw18.KeepLasts'. -/
def keepLastsUptoCard : Claim7 := { stood := { row := keepLastsUptoRow, standIns := [], harness := (true, "78d75ac4598d3a5a1c02bc668b687222219c68a62719af5c775d249fb2060df5"), looks := true }, kinds := [], alts := [], laidByText := true, laidKinds := [.data, .data, .pinned], laidTests := true, laidLooks := .later }
def KeepLastsUptoCardSaid : Prop := Claim7.holds Tryz.pinned (.plain (OpenSpec.upto keepLastsSpec)) keepLastsUptoCard
end Rows
end Go.Proofs.YtfcnapnopdomhaaGreatDoor
