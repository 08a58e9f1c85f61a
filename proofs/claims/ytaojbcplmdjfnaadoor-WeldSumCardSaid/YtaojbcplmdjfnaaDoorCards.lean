/-
  DERIVED. GIVEN WITH THE SEED: THE CARDS: each row of YtaojbcplmdjfnaaDoorRows.lean that lists a variable, with what it lists TIED to the program's text (the seventh form; the later family's looks); each row that meets fmt, with fmt's text TOLD by the authors' own Lean function (tested against real Go, not proved from fmt's source: count such statements apart). THE CARD IS WHAT COUNTS. Prove the row's statement (the work); the ties are given (YtaojbcplmdjfnaaDoorTie.lean); close each card by the builder's one call (the guide's Derived/Test/ToyasCard.lean, 'card_holds'). Laid BY PROGRAM, IN A SANDBOX (cutbox-door.mjs). By AI agents, Wed Nov 11 2026. No macro, syntax, notation, axiom, sorry.
-/
import Derived.Test.YtaojbcplmdjfnaaDoorRows
import GoSem.ClaimSeven
namespace Go.Proofs.YtaojbcplmdjfnaaDoor
namespace Rows

/-- THE TIED CARD OF 'galleylaw05.WeldNames'. -/
def weldNamesCard : Claim7 := { stood := { row := weldNamesRow, standIns := [], harness := (true, "b2617099fa0fd854e6d39df46807aec4ea884da348ba7aa14b9df0153e300edf"), looks := false }, kinds := [], alts := [], laidByText := true, laidKinds := [.data, .data, .data, .data], laidTests := true, laidLooks := .later }
def WeldNamesCardSaid : Prop := Claim7.holds Tryd.pinned (.plain (OpenSpec.ofChange weldNamesSpec)) weldNamesCard

/-- THE TIED CARD OF 'galleylaw05.WeldOf'. -/
def weldOfCard : Claim7 := { stood := { row := weldOfRow, standIns := [], harness := (true, "b2617099fa0fd854e6d39df46807aec4ea884da348ba7aa14b9df0153e300edf"), looks := false }, kinds := [], alts := [], laidByText := true, laidKinds := [.data, .data, .data, .data], laidTests := true, laidLooks := .later }
def WeldOfCardSaid : Prop := Claim7.holds Tryd.pinned (.plain (OpenSpec.ofChange weldOfSpec)) weldOfCard

/-- THE TIED CARD OF 'galleylaw05.WeldAny'. -/
def weldAnyCard : Claim7 := { stood := { row := weldAnyRow, standIns := [], harness := (true, "b2617099fa0fd854e6d39df46807aec4ea884da348ba7aa14b9df0153e300edf"), looks := false }, kinds := [], alts := [], laidByText := true, laidKinds := [.data, .data, .data, .data], laidTests := true, laidLooks := .later }
def WeldAnyCardSaid : Prop := Claim7.holds Tryd.pinned (.plain (OpenSpec.ofChange weldAnySpec)) weldAnyCard

/-- THE TIED CARD OF 'galleylaw05.WeldJoins'. -/
def weldJoinsCard : Claim7 := { stood := { row := weldJoinsRow, standIns := [], harness := (true, "b2617099fa0fd854e6d39df46807aec4ea884da348ba7aa14b9df0153e300edf"), looks := false }, kinds := [], alts := [], laidByText := true, laidKinds := [.data, .data, .data, .data], laidTests := true, laidLooks := .later }
def WeldJoinsCardSaid : Prop := Claim7.holds Tryd.pinned (.plain (OpenSpec.ofChange weldJoinsSpec)) weldJoinsCard

/-- THE TIED CARD OF 'galleylaw05.WeldBytes'. -/
def weldBytesCard : Claim7 := { stood := { row := weldBytesRow, standIns := [], harness := (true, "b2617099fa0fd854e6d39df46807aec4ea884da348ba7aa14b9df0153e300edf"), looks := false }, kinds := [], alts := [], laidByText := true, laidKinds := [.data, .data, .data, .data], laidTests := true, laidLooks := .later }
def WeldBytesCardSaid : Prop := Claim7.holds Tryd.pinned (.plain (OpenSpec.ofChange weldBytesSpec)) weldBytesCard

/-- THE TIED CARD OF 'galleylaw05.WeldSum'. -/
def weldSumCard : Claim7 := { stood := { row := weldSumRow, standIns := [], harness := (true, "b2617099fa0fd854e6d39df46807aec4ea884da348ba7aa14b9df0153e300edf"), looks := false }, kinds := [], alts := [], laidByText := true, laidKinds := [.data, .data, .data, .data], laidTests := true, laidLooks := .later }
def WeldSumCardSaid : Prop := Claim7.holds Tryd.pinned (.plain (OpenSpec.ofChange weldSumSpec)) weldSumCard

/-- THE TIED CARD OF 'galleylaw05.WeldPieces'. -/
def weldPiecesCard : Claim7 := { stood := { row := weldPiecesRow, standIns := [], harness := (true, "b2617099fa0fd854e6d39df46807aec4ea884da348ba7aa14b9df0153e300edf"), looks := false }, kinds := [], alts := [], laidByText := true, laidKinds := [.data, .data, .data, .data], laidTests := true, laidLooks := .later }
def WeldPiecesCardSaid : Prop := Claim7.holds Tryd.pinned (.plain (OpenSpec.ofChange weldPiecesSpec)) weldPiecesCard

/-- THE SECOND FORM's CARD OF 'galleylaw05.WeldNames'. -/
def weldNamesUptoCard : Claim7 := { stood := { row := weldNamesUptoRow, standIns := [], harness := (true, "b2617099fa0fd854e6d39df46807aec4ea884da348ba7aa14b9df0153e300edf"), looks := false }, kinds := [], alts := [], laidByText := true, laidKinds := [.data, .data, .data, .data], laidTests := true, laidLooks := .later }
def WeldNamesUptoCardSaid : Prop := Claim7.holds Tryd.pinned (.plain (OpenSpec.upto weldNamesSpec)) weldNamesUptoCard

/-- THE SECOND FORM's CARD OF 'galleylaw05.WeldOf'. -/
def weldOfUptoCard : Claim7 := { stood := { row := weldOfUptoRow, standIns := [], harness := (true, "b2617099fa0fd854e6d39df46807aec4ea884da348ba7aa14b9df0153e300edf"), looks := false }, kinds := [], alts := [], laidByText := true, laidKinds := [.data, .data, .data, .data], laidTests := true, laidLooks := .later }
def WeldOfUptoCardSaid : Prop := Claim7.holds Tryd.pinned (.plain (OpenSpec.upto weldOfSpec)) weldOfUptoCard

/-- THE SECOND FORM's CARD OF 'galleylaw05.WeldAny'. -/
def weldAnyUptoCard : Claim7 := { stood := { row := weldAnyUptoRow, standIns := [], harness := (true, "b2617099fa0fd854e6d39df46807aec4ea884da348ba7aa14b9df0153e300edf"), looks := false }, kinds := [], alts := [], laidByText := true, laidKinds := [.data, .data, .data, .data], laidTests := true, laidLooks := .later }
def WeldAnyUptoCardSaid : Prop := Claim7.holds Tryd.pinned (.plain (OpenSpec.upto weldAnySpec)) weldAnyUptoCard

/-- THE SECOND FORM's CARD OF 'galleylaw05.WeldJoins'. -/
def weldJoinsUptoCard : Claim7 := { stood := { row := weldJoinsUptoRow, standIns := [], harness := (true, "b2617099fa0fd854e6d39df46807aec4ea884da348ba7aa14b9df0153e300edf"), looks := false }, kinds := [], alts := [], laidByText := true, laidKinds := [.data, .data, .data, .data], laidTests := true, laidLooks := .later }
def WeldJoinsUptoCardSaid : Prop := Claim7.holds Tryd.pinned (.plain (OpenSpec.upto weldJoinsSpec)) weldJoinsUptoCard

/-- THE SECOND FORM's CARD OF 'galleylaw05.WeldBytes'. -/
def weldBytesUptoCard : Claim7 := { stood := { row := weldBytesUptoRow, standIns := [], harness := (true, "b2617099fa0fd854e6d39df46807aec4ea884da348ba7aa14b9df0153e300edf"), looks := false }, kinds := [], alts := [], laidByText := true, laidKinds := [.data, .data, .data, .data], laidTests := true, laidLooks := .later }
def WeldBytesUptoCardSaid : Prop := Claim7.holds Tryd.pinned (.plain (OpenSpec.upto weldBytesSpec)) weldBytesUptoCard

/-- THE SECOND FORM's CARD OF 'galleylaw05.WeldSum'. -/
def weldSumUptoCard : Claim7 := { stood := { row := weldSumUptoRow, standIns := [], harness := (true, "b2617099fa0fd854e6d39df46807aec4ea884da348ba7aa14b9df0153e300edf"), looks := false }, kinds := [], alts := [], laidByText := true, laidKinds := [.data, .data, .data, .data], laidTests := true, laidLooks := .later }
def WeldSumUptoCardSaid : Prop := Claim7.holds Tryd.pinned (.plain (OpenSpec.upto weldSumSpec)) weldSumUptoCard

/-- THE SECOND FORM's CARD OF 'galleylaw05.WeldPieces'. -/
def weldPiecesUptoCard : Claim7 := { stood := { row := weldPiecesUptoRow, standIns := [], harness := (true, "b2617099fa0fd854e6d39df46807aec4ea884da348ba7aa14b9df0153e300edf"), looks := false }, kinds := [], alts := [], laidByText := true, laidKinds := [.data, .data, .data, .data], laidTests := true, laidLooks := .later }
def WeldPiecesUptoCardSaid : Prop := Claim7.holds Tryd.pinned (.plain (OpenSpec.upto weldPiecesSpec)) weldPiecesUptoCard
end Rows
end Go.Proofs.YtaojbcplmdjfnaaDoor
