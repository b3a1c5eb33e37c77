/-
  DERIVED. GIVEN WITH THE SEED: THE CARDS: each row of YtglgjakjhkdoaaaDoorRows.lean that lists a variable, with what it lists TIED to the program's text (the seventh form; the later family's looks); each row that meets fmt, with fmt's text TOLD by the authors' own Lean function (tested against real Go, not proved from fmt's source: count such statements apart). THE CARD IS WHAT COUNTS. Prove the row's statement (the work); the ties are given (YtglgjakjhkdoaaaDoorTie.lean); close each card by the builder's one call (the guide's Derived/Test/ToyasCard.lean, 'card_holds'). Laid BY PROGRAM, IN A SANDBOX (cutbox-door.mjs). By AI agents, Wed Nov 11 2026. No macro, syntax, notation, axiom, sorry.
-/
import Derived.Test.YtglgjakjhkdoaaaDoorRows
import GoSem.ClaimSeven
namespace Go.Proofs.YtglgjakjhkdoaaaDoor
namespace Rows

/-- THE TIED CARD OF 'draymanlaw10.TapeRows'. -/
def tapeRowsCard : Claim7 := { stood := { row := tapeRowsRow, standIns := [], harness := (true, "332ce30bed6823104f62b1026a48f42505b7316989ea670a130c2953d20ff6c5"), looks := false }, kinds := [], alts := [], laidByText := true, laidKinds := [.data, .pinned], laidTests := true, laidLooks := .later }
def TapeRowsCardSaid : Prop := Claim7.holds Tryd.pinned (.plain (OpenSpec.ofChange tapeRowsSpec)) tapeRowsCard

/-- THE TIED CARD OF 'draymanlaw10.TapeReads'. -/
def tapeReadsCard : Claim7 := { stood := { row := tapeReadsRow, standIns := [], harness := (true, "332ce30bed6823104f62b1026a48f42505b7316989ea670a130c2953d20ff6c5"), looks := false }, kinds := [], alts := [], laidByText := true, laidKinds := [.data, .pinned], laidTests := true, laidLooks := .later }
def TapeReadsCardSaid : Prop := Claim7.holds Tryd.pinned (.plain (OpenSpec.ofChange tapeReadsSpec)) tapeReadsCard

/-- THE TIED CARD OF 'draymanlaw10.TapeBack'. -/
def tapeBackCard : Claim7 := { stood := { row := tapeBackRow, standIns := [], harness := (true, "332ce30bed6823104f62b1026a48f42505b7316989ea670a130c2953d20ff6c5"), looks := false }, kinds := [], alts := [], laidByText := true, laidKinds := [.data, .pinned], laidTests := true, laidLooks := .later }
def TapeBackCardSaid : Prop := Claim7.holds Tryd.pinned (.plain (OpenSpec.ofChange tapeBackSpec)) tapeBackCard

/-- THE TIED CARD OF 'draymanlaw10.TapeLasts'. -/
def tapeLastsCard : Claim7 := { stood := { row := tapeLastsRow, standIns := [], harness := (true, "332ce30bed6823104f62b1026a48f42505b7316989ea670a130c2953d20ff6c5"), looks := false }, kinds := [], alts := [], laidByText := true, laidKinds := [.data, .pinned], laidTests := true, laidLooks := .later }
def TapeLastsCardSaid : Prop := Claim7.holds Tryd.pinned (.plain (OpenSpec.ofChange tapeLastsSpec)) tapeLastsCard

/-- THE SECOND FORM's CARD OF 'draymanlaw10.TapeRows'. -/
def tapeRowsUptoCard : Claim7 := { stood := { row := tapeRowsUptoRow, standIns := [], harness := (true, "332ce30bed6823104f62b1026a48f42505b7316989ea670a130c2953d20ff6c5"), looks := false }, kinds := [], alts := [], laidByText := true, laidKinds := [.data, .pinned], laidTests := true, laidLooks := .later }
def TapeRowsUptoCardSaid : Prop := Claim7.holds Tryd.pinned (.plain (OpenSpec.upto tapeRowsSpec)) tapeRowsUptoCard

/-- THE SECOND FORM's CARD OF 'draymanlaw10.TapeReads'. -/
def tapeReadsUptoCard : Claim7 := { stood := { row := tapeReadsUptoRow, standIns := [], harness := (true, "332ce30bed6823104f62b1026a48f42505b7316989ea670a130c2953d20ff6c5"), looks := false }, kinds := [], alts := [], laidByText := true, laidKinds := [.data, .pinned], laidTests := true, laidLooks := .later }
def TapeReadsUptoCardSaid : Prop := Claim7.holds Tryd.pinned (.plain (OpenSpec.upto tapeReadsSpec)) tapeReadsUptoCard

/-- THE SECOND FORM's CARD OF 'draymanlaw10.TapeBack'. -/
def tapeBackUptoCard : Claim7 := { stood := { row := tapeBackUptoRow, standIns := [], harness := (true, "332ce30bed6823104f62b1026a48f42505b7316989ea670a130c2953d20ff6c5"), looks := false }, kinds := [], alts := [], laidByText := true, laidKinds := [.data, .pinned], laidTests := true, laidLooks := .later }
def TapeBackUptoCardSaid : Prop := Claim7.holds Tryd.pinned (.plain (OpenSpec.upto tapeBackSpec)) tapeBackUptoCard

/-- THE SECOND FORM's CARD OF 'draymanlaw10.TapeLasts'. -/
def tapeLastsUptoCard : Claim7 := { stood := { row := tapeLastsUptoRow, standIns := [], harness := (true, "332ce30bed6823104f62b1026a48f42505b7316989ea670a130c2953d20ff6c5"), looks := false }, kinds := [], alts := [], laidByText := true, laidKinds := [.data, .pinned], laidTests := true, laidLooks := .later }
def TapeLastsUptoCardSaid : Prop := Claim7.holds Tryd.pinned (.plain (OpenSpec.upto tapeLastsSpec)) tapeLastsUptoCard
end Rows
end Go.Proofs.YtglgjakjhkdoaaaDoor
