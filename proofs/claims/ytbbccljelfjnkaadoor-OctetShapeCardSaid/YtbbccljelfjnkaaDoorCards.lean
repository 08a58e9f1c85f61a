/-
  DERIVED. GIVEN WITH THE SEED: THE CARDS: each row of YtbbccljelfjnkaaDoorRows.lean that lists a variable, with what it lists TIED to the program's text (the seventh form; the later family's looks); each row that meets fmt, with fmt's text TOLD by the authors' own Lean function (tested against real Go, not proved from fmt's source: count such statements apart). THE CARD IS WHAT COUNTS. Prove the row's statement (the work); the ties are given (YtbbccljelfjnkaaDoorTie.lean); close each card by the builder's one call (the guide's Derived/Test/ToyasCard.lean, 'card_holds'). Laid BY PROGRAM, IN A SANDBOX (cutbox-door.mjs). By AI agents, Wed Nov 11 2026. No macro, syntax, notation, axiom, sorry.
-/
import Derived.Test.YtbbccljelfjnkaaDoorRows
import GoSem.ClaimSeven
namespace Go.Proofs.YtbbccljelfjnkaaDoor
namespace Rows

/-- THE TIED CARD OF 'galleylaw01.OctetTable'. -/
def octetTableCard : Claim7 := { stood := { row := octetTableRow, standIns := [], harness := (true, "032fbc3935568a6471887cdee174c4e3f1894892158dc9e137a98bb4cdae3ff4"), looks := false }, kinds := [], alts := [], laidByText := true, laidKinds := [.data, .data, .data], laidTests := true, laidLooks := .later }
def OctetTableCardSaid : Prop := Claim7.holds Tryd.pinned (.plain (OpenSpec.ofChange octetTableSpec)) octetTableCard

/-- THE TIED CARD OF 'galleylaw01.OctetWhole'. -/
def octetWholeCard : Claim7 := { stood := { row := octetWholeRow, standIns := [], harness := (true, "032fbc3935568a6471887cdee174c4e3f1894892158dc9e137a98bb4cdae3ff4"), looks := false }, kinds := [], alts := [], laidByText := true, laidKinds := [.data, .data, .data], laidTests := true, laidLooks := .later }
def OctetWholeCardSaid : Prop := Claim7.holds Tryd.pinned (.plain (OpenSpec.ofChange octetWholeSpec)) octetWholeCard

/-- THE TIED CARD OF 'galleylaw01.OctetBytes'. -/
def octetBytesCard : Claim7 := { stood := { row := octetBytesRow, standIns := [], harness := (true, "032fbc3935568a6471887cdee174c4e3f1894892158dc9e137a98bb4cdae3ff4"), looks := false }, kinds := [], alts := [], laidByText := true, laidKinds := [.data, .data, .data], laidTests := true, laidLooks := .later }
def OctetBytesCardSaid : Prop := Claim7.holds Tryd.pinned (.plain (OpenSpec.ofChange octetBytesSpec)) octetBytesCard

/-- THE TIED CARD OF 'galleylaw01.OctetBack'. -/
def octetBackCard : Claim7 := { stood := { row := octetBackRow, standIns := [], harness := (true, "032fbc3935568a6471887cdee174c4e3f1894892158dc9e137a98bb4cdae3ff4"), looks := false }, kinds := [], alts := [], laidByText := true, laidKinds := [.data, .data, .data], laidTests := true, laidLooks := .later }
def OctetBackCardSaid : Prop := Claim7.holds Tryd.pinned (.plain (OpenSpec.ofChange octetBackSpec)) octetBackCard

/-- THE TIED CARD OF 'galleylaw01.OctetShape'. -/
def octetShapeCard : Claim7 := { stood := { row := octetShapeRow, standIns := [], harness := (true, "032fbc3935568a6471887cdee174c4e3f1894892158dc9e137a98bb4cdae3ff4"), looks := false }, kinds := [], alts := [], laidByText := true, laidKinds := [.data, .data, .data], laidTests := true, laidLooks := .later }
def OctetShapeCardSaid : Prop := Claim7.holds Tryd.pinned (.plain (OpenSpec.ofChange octetShapeSpec)) octetShapeCard

/-- THE TIED CARD OF 'galleylaw01.OctetWithin'. -/
def octetWithinCard : Claim7 := { stood := { row := octetWithinRow, standIns := [], harness := (true, "032fbc3935568a6471887cdee174c4e3f1894892158dc9e137a98bb4cdae3ff4"), looks := false }, kinds := [], alts := [], laidByText := true, laidKinds := [.data, .data, .data], laidTests := true, laidLooks := .later }
def OctetWithinCardSaid : Prop := Claim7.holds Tryd.pinned (.plain (OpenSpec.ofChange octetWithinSpec)) octetWithinCard

/-- THE TIED CARD OF 'galleylaw01.OctetOwn'. -/
def octetOwnCard : Claim7 := { stood := { row := octetOwnRow, standIns := [], harness := (true, "032fbc3935568a6471887cdee174c4e3f1894892158dc9e137a98bb4cdae3ff4"), looks := false }, kinds := [], alts := [], laidByText := true, laidKinds := [.data, .data, .data], laidTests := true, laidLooks := .later }
def OctetOwnCardSaid : Prop := Claim7.holds Tryd.pinned (.plain (OpenSpec.ofChange octetOwnSpec)) octetOwnCard

/-- THE SECOND FORM's CARD OF 'galleylaw01.OctetTable'. -/
def octetTableUptoCard : Claim7 := { stood := { row := octetTableUptoRow, standIns := [], harness := (true, "032fbc3935568a6471887cdee174c4e3f1894892158dc9e137a98bb4cdae3ff4"), looks := false }, kinds := [], alts := [], laidByText := true, laidKinds := [.data, .data, .data], laidTests := true, laidLooks := .later }
def OctetTableUptoCardSaid : Prop := Claim7.holds Tryd.pinned (.plain (OpenSpec.upto octetTableSpec)) octetTableUptoCard

/-- THE SECOND FORM's CARD OF 'galleylaw01.OctetWhole'. -/
def octetWholeUptoCard : Claim7 := { stood := { row := octetWholeUptoRow, standIns := [], harness := (true, "032fbc3935568a6471887cdee174c4e3f1894892158dc9e137a98bb4cdae3ff4"), looks := false }, kinds := [], alts := [], laidByText := true, laidKinds := [.data, .data, .data], laidTests := true, laidLooks := .later }
def OctetWholeUptoCardSaid : Prop := Claim7.holds Tryd.pinned (.plain (OpenSpec.upto octetWholeSpec)) octetWholeUptoCard

/-- THE SECOND FORM's CARD OF 'galleylaw01.OctetBytes'. -/
def octetBytesUptoCard : Claim7 := { stood := { row := octetBytesUptoRow, standIns := [], harness := (true, "032fbc3935568a6471887cdee174c4e3f1894892158dc9e137a98bb4cdae3ff4"), looks := false }, kinds := [], alts := [], laidByText := true, laidKinds := [.data, .data, .data], laidTests := true, laidLooks := .later }
def OctetBytesUptoCardSaid : Prop := Claim7.holds Tryd.pinned (.plain (OpenSpec.upto octetBytesSpec)) octetBytesUptoCard

/-- THE SECOND FORM's CARD OF 'galleylaw01.OctetBack'. -/
def octetBackUptoCard : Claim7 := { stood := { row := octetBackUptoRow, standIns := [], harness := (true, "032fbc3935568a6471887cdee174c4e3f1894892158dc9e137a98bb4cdae3ff4"), looks := false }, kinds := [], alts := [], laidByText := true, laidKinds := [.data, .data, .data], laidTests := true, laidLooks := .later }
def OctetBackUptoCardSaid : Prop := Claim7.holds Tryd.pinned (.plain (OpenSpec.upto octetBackSpec)) octetBackUptoCard

/-- THE SECOND FORM's CARD OF 'galleylaw01.OctetShape'. -/
def octetShapeUptoCard : Claim7 := { stood := { row := octetShapeUptoRow, standIns := [], harness := (true, "032fbc3935568a6471887cdee174c4e3f1894892158dc9e137a98bb4cdae3ff4"), looks := false }, kinds := [], alts := [], laidByText := true, laidKinds := [.data, .data, .data], laidTests := true, laidLooks := .later }
def OctetShapeUptoCardSaid : Prop := Claim7.holds Tryd.pinned (.plain (OpenSpec.upto octetShapeSpec)) octetShapeUptoCard

/-- THE SECOND FORM's CARD OF 'galleylaw01.OctetWithin'. -/
def octetWithinUptoCard : Claim7 := { stood := { row := octetWithinUptoRow, standIns := [], harness := (true, "032fbc3935568a6471887cdee174c4e3f1894892158dc9e137a98bb4cdae3ff4"), looks := false }, kinds := [], alts := [], laidByText := true, laidKinds := [.data, .data, .data], laidTests := true, laidLooks := .later }
def OctetWithinUptoCardSaid : Prop := Claim7.holds Tryd.pinned (.plain (OpenSpec.upto octetWithinSpec)) octetWithinUptoCard

/-- THE SECOND FORM's CARD OF 'galleylaw01.OctetOwn'. -/
def octetOwnUptoCard : Claim7 := { stood := { row := octetOwnUptoRow, standIns := [], harness := (true, "032fbc3935568a6471887cdee174c4e3f1894892158dc9e137a98bb4cdae3ff4"), looks := false }, kinds := [], alts := [], laidByText := true, laidKinds := [.data, .data, .data], laidTests := true, laidLooks := .later }
def OctetOwnUptoCardSaid : Prop := Claim7.holds Tryd.pinned (.plain (OpenSpec.upto octetOwnSpec)) octetOwnUptoCard
end Rows
end Go.Proofs.YtbbccljelfjnkaaDoor
