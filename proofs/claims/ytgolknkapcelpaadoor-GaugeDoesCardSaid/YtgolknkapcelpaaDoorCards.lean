/-
  DERIVED. GIVEN WITH THE SEED: THE CARDS: each row of YtgolknkapcelpaaDoorRows.lean that lists a variable, with what it lists TIED to the program's text (the seventh form; the later family's looks); each row that meets fmt, with fmt's text TOLD by the authors' own Lean function (tested against real Go, not proved from fmt's source: count such statements apart). THE CARD IS WHAT COUNTS. Prove the row's statement (the work); the ties are given (YtgolknkapcelpaaDoorTie.lean); close each card by the builder's one call (the guide's Derived/Test/ToyasCard.lean, 'card_holds'). Laid BY PROGRAM, IN A SANDBOX (cutbox-door.mjs). By AI agents, Wed Nov 11 2026. No macro, syntax, notation, axiom, sorry.
-/
import Derived.Test.YtgolknkapcelpaaDoorRows
import GoSem.ClaimSeven
namespace Go.Proofs.YtgolknkapcelpaaDoor
namespace Rows

/-- THE TIED CARD OF 'draymanlaw20.GaugeDoes'. -/
def gaugeDoesCard : Claim7 := { stood := { row := gaugeDoesRow, standIns := [], harness := (true, "83c2182526bb1c1d2aea98cb7e842c9e626306ae07f9874be87f9dd13ff9dc9f"), looks := false }, kinds := [], alts := [], laidByText := true, laidKinds := [.listed, .data], laidTests := true, laidLooks := .later }
def GaugeDoesCardSaid : Prop := Claim7.holds Tryd.pinned (.plain (OpenSpec.ofChange gaugeDoesSpec)) gaugeDoesCard

/-- THE TIED CARD OF 'draymanlaw20.GaugeOwn'. -/
def gaugeOwnCard : Claim7 := { stood := { row := gaugeOwnRow, standIns := [], harness := (true, "83c2182526bb1c1d2aea98cb7e842c9e626306ae07f9874be87f9dd13ff9dc9f"), looks := false }, kinds := [], alts := [], laidByText := true, laidKinds := [.listed, .data], laidTests := true, laidLooks := .later }
def GaugeOwnCardSaid : Prop := Claim7.holds Tryd.pinned (.plain (OpenSpec.ofChange gaugeOwnSpec)) gaugeOwnCard

/-- THE TIED CARD OF 'draymanlaw20.GaugeOrder'. -/
def gaugeOrderCard : Claim7 := { stood := { row := gaugeOrderRow, standIns := [], harness := (true, "83c2182526bb1c1d2aea98cb7e842c9e626306ae07f9874be87f9dd13ff9dc9f"), looks := false }, kinds := [], alts := [], laidByText := true, laidKinds := [.listed, .data], laidTests := true, laidLooks := .later }
def GaugeOrderCardSaid : Prop := Claim7.holds Tryd.pinned (.plain (OpenSpec.ofChange gaugeOrderSpec)) gaugeOrderCard

/-- THE SECOND FORM's CARD OF 'draymanlaw20.GaugeDoes'. -/
def gaugeDoesUptoCard : Claim7 := { stood := { row := gaugeDoesUptoRow, standIns := [], harness := (true, "83c2182526bb1c1d2aea98cb7e842c9e626306ae07f9874be87f9dd13ff9dc9f"), looks := false }, kinds := [], alts := [], laidByText := true, laidKinds := [.listed, .data], laidTests := true, laidLooks := .later }
def GaugeDoesUptoCardSaid : Prop := Claim7.holds Tryd.pinned (.plain (OpenSpec.upto gaugeDoesSpec)) gaugeDoesUptoCard

/-- THE SECOND FORM's CARD OF 'draymanlaw20.GaugeOwn'. -/
def gaugeOwnUptoCard : Claim7 := { stood := { row := gaugeOwnUptoRow, standIns := [], harness := (true, "83c2182526bb1c1d2aea98cb7e842c9e626306ae07f9874be87f9dd13ff9dc9f"), looks := false }, kinds := [], alts := [], laidByText := true, laidKinds := [.listed, .data], laidTests := true, laidLooks := .later }
def GaugeOwnUptoCardSaid : Prop := Claim7.holds Tryd.pinned (.plain (OpenSpec.upto gaugeOwnSpec)) gaugeOwnUptoCard

/-- THE SECOND FORM's CARD OF 'draymanlaw20.GaugeOrder'. -/
def gaugeOrderUptoCard : Claim7 := { stood := { row := gaugeOrderUptoRow, standIns := [], harness := (true, "83c2182526bb1c1d2aea98cb7e842c9e626306ae07f9874be87f9dd13ff9dc9f"), looks := false }, kinds := [], alts := [], laidByText := true, laidKinds := [.listed, .data], laidTests := true, laidLooks := .later }
def GaugeOrderUptoCardSaid : Prop := Claim7.holds Tryd.pinned (.plain (OpenSpec.upto gaugeOrderSpec)) gaugeOrderUptoCard
end Rows
end Go.Proofs.YtgolknkapcelpaaDoor
