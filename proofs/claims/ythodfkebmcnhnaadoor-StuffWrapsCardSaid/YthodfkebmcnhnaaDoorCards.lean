/-
  DERIVED. GIVEN WITH THE SEED: THE CARDS: each row of YthodfkebmcnhnaaDoorRows.lean that lists a variable, with what it lists TIED to the program's text (the seventh form; the later family's looks); each row that meets fmt, with fmt's text TOLD by the authors' own Lean function (tested against real Go, not proved from fmt's source: count such statements apart). THE CARD IS WHAT COUNTS. Prove the row's statement (the work); the ties are given (YthodfkebmcnhnaaDoorTie.lean); close each card by the builder's one call (the guide's Derived/Test/ToyasCard.lean, 'card_holds'). Laid BY PROGRAM, IN A SANDBOX (cutbox-door.mjs). By AI agents, Wed Nov 11 2026. No macro, syntax, notation, axiom, sorry.
-/
import Derived.Test.YthodfkebmcnhnaaDoorRows
import GoSem.ClaimSeven
namespace Go.Proofs.YthodfkebmcnhnaaDoor
namespace Rows

/-- THE TIED CARD OF 'draymanlaw09.StuffApart'. -/
def stuffApartCard : Claim7 := { stood := { row := stuffApartRow, standIns := [], harness := (true, "6ae0b2148c5245c522100839604cfb49c2189d17b563876c677996ee6b9aed3d"), looks := false }, kinds := [], alts := [], laidByText := true, laidKinds := [.data, .pinned], laidTests := true, laidLooks := .later }
def StuffApartCardSaid : Prop := Claim7.holds Tryd.pinned (.plain (OpenSpec.ofChange stuffApartSpec)) stuffApartCard

/-- THE TIED CARD OF 'draymanlaw09.StuffWraps'. -/
def stuffWrapsCard : Claim7 := { stood := { row := stuffWrapsRow, standIns := [], harness := (true, "6ae0b2148c5245c522100839604cfb49c2189d17b563876c677996ee6b9aed3d"), looks := false }, kinds := [], alts := [], laidByText := true, laidKinds := [.data, .pinned], laidTests := true, laidLooks := .later }
def StuffWrapsCardSaid : Prop := Claim7.holds Tryd.pinned (.plain (OpenSpec.ofChange stuffWrapsSpec)) stuffWrapsCard

/-- THE TIED CARD OF 'draymanlaw09.StuffOpens'. -/
def stuffOpensCard : Claim7 := { stood := { row := stuffOpensRow, standIns := [], harness := (true, "6ae0b2148c5245c522100839604cfb49c2189d17b563876c677996ee6b9aed3d"), looks := false }, kinds := [], alts := [], laidByText := true, laidKinds := [.data, .pinned], laidTests := true, laidLooks := .later }
def StuffOpensCardSaid : Prop := Claim7.holds Tryd.pinned (.plain (OpenSpec.ofChange stuffOpensSpec)) stuffOpensCard

/-- THE TIED CARD OF 'draymanlaw09.StuffBack'. -/
def stuffBackCard : Claim7 := { stood := { row := stuffBackRow, standIns := [], harness := (true, "6ae0b2148c5245c522100839604cfb49c2189d17b563876c677996ee6b9aed3d"), looks := false }, kinds := [], alts := [], laidByText := true, laidKinds := [.data, .pinned], laidTests := true, laidLooks := .later }
def StuffBackCardSaid : Prop := Claim7.holds Tryd.pinned (.plain (OpenSpec.ofChange stuffBackSpec)) stuffBackCard

/-- THE TIED CARD OF 'draymanlaw09.StuffOnly'. -/
def stuffOnlyCard : Claim7 := { stood := { row := stuffOnlyRow, standIns := [], harness := (true, "6ae0b2148c5245c522100839604cfb49c2189d17b563876c677996ee6b9aed3d"), looks := false }, kinds := [], alts := [], laidByText := true, laidKinds := [.data, .pinned], laidTests := true, laidLooks := .later }
def StuffOnlyCardSaid : Prop := Claim7.holds Tryd.pinned (.plain (OpenSpec.ofChange stuffOnlySpec)) stuffOnlyCard

/-- THE TIED CARD OF 'draymanlaw09.StuffHoles'. -/
def stuffHolesCard : Claim7 := { stood := { row := stuffHolesRow, standIns := [], harness := (true, "6ae0b2148c5245c522100839604cfb49c2189d17b563876c677996ee6b9aed3d"), looks := false }, kinds := [], alts := [], laidByText := true, laidKinds := [.data, .pinned], laidTests := true, laidLooks := .later }
def StuffHolesCardSaid : Prop := Claim7.holds Tryd.pinned (.plain (OpenSpec.ofChange stuffHolesSpec)) stuffHolesCard

/-- THE SECOND FORM's CARD OF 'draymanlaw09.StuffApart'. -/
def stuffApartUptoCard : Claim7 := { stood := { row := stuffApartUptoRow, standIns := [], harness := (true, "6ae0b2148c5245c522100839604cfb49c2189d17b563876c677996ee6b9aed3d"), looks := false }, kinds := [], alts := [], laidByText := true, laidKinds := [.data, .pinned], laidTests := true, laidLooks := .later }
def StuffApartUptoCardSaid : Prop := Claim7.holds Tryd.pinned (.plain (OpenSpec.upto stuffApartSpec)) stuffApartUptoCard

/-- THE SECOND FORM's CARD OF 'draymanlaw09.StuffWraps'. -/
def stuffWrapsUptoCard : Claim7 := { stood := { row := stuffWrapsUptoRow, standIns := [], harness := (true, "6ae0b2148c5245c522100839604cfb49c2189d17b563876c677996ee6b9aed3d"), looks := false }, kinds := [], alts := [], laidByText := true, laidKinds := [.data, .pinned], laidTests := true, laidLooks := .later }
def StuffWrapsUptoCardSaid : Prop := Claim7.holds Tryd.pinned (.plain (OpenSpec.upto stuffWrapsSpec)) stuffWrapsUptoCard

/-- THE SECOND FORM's CARD OF 'draymanlaw09.StuffOpens'. -/
def stuffOpensUptoCard : Claim7 := { stood := { row := stuffOpensUptoRow, standIns := [], harness := (true, "6ae0b2148c5245c522100839604cfb49c2189d17b563876c677996ee6b9aed3d"), looks := false }, kinds := [], alts := [], laidByText := true, laidKinds := [.data, .pinned], laidTests := true, laidLooks := .later }
def StuffOpensUptoCardSaid : Prop := Claim7.holds Tryd.pinned (.plain (OpenSpec.upto stuffOpensSpec)) stuffOpensUptoCard

/-- THE SECOND FORM's CARD OF 'draymanlaw09.StuffBack'. -/
def stuffBackUptoCard : Claim7 := { stood := { row := stuffBackUptoRow, standIns := [], harness := (true, "6ae0b2148c5245c522100839604cfb49c2189d17b563876c677996ee6b9aed3d"), looks := false }, kinds := [], alts := [], laidByText := true, laidKinds := [.data, .pinned], laidTests := true, laidLooks := .later }
def StuffBackUptoCardSaid : Prop := Claim7.holds Tryd.pinned (.plain (OpenSpec.upto stuffBackSpec)) stuffBackUptoCard

/-- THE SECOND FORM's CARD OF 'draymanlaw09.StuffOnly'. -/
def stuffOnlyUptoCard : Claim7 := { stood := { row := stuffOnlyUptoRow, standIns := [], harness := (true, "6ae0b2148c5245c522100839604cfb49c2189d17b563876c677996ee6b9aed3d"), looks := false }, kinds := [], alts := [], laidByText := true, laidKinds := [.data, .pinned], laidTests := true, laidLooks := .later }
def StuffOnlyUptoCardSaid : Prop := Claim7.holds Tryd.pinned (.plain (OpenSpec.upto stuffOnlySpec)) stuffOnlyUptoCard

/-- THE SECOND FORM's CARD OF 'draymanlaw09.StuffHoles'. -/
def stuffHolesUptoCard : Claim7 := { stood := { row := stuffHolesUptoRow, standIns := [], harness := (true, "6ae0b2148c5245c522100839604cfb49c2189d17b563876c677996ee6b9aed3d"), looks := false }, kinds := [], alts := [], laidByText := true, laidKinds := [.data, .pinned], laidTests := true, laidLooks := .later }
def StuffHolesUptoCardSaid : Prop := Claim7.holds Tryd.pinned (.plain (OpenSpec.upto stuffHolesSpec)) stuffHolesUptoCard
end Rows
end Go.Proofs.YthodfkebmcnhnaaDoor
