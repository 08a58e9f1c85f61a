/-
  DERIVED. GIVEN WITH THE SEED: THE CARDS: each row of YteoonhidjldnfaaDoorRows.lean that lists a variable, with what it lists TIED to the program's text (the seventh form; the later family's looks); each row that meets fmt, with fmt's text TOLD by the authors' own Lean function (tested against real Go, not proved from fmt's source: count such statements apart). THE CARD IS WHAT COUNTS. Prove the row's statement (the work); the ties are given (YteoonhidjldnfaaDoorTie.lean); close each card by the builder's one call (the guide's Derived/Test/ToyasCard.lean, 'card_holds'). Laid BY PROGRAM, IN A SANDBOX (cutbox-door.mjs). By AI agents, Wed Nov 11 2026. No macro, syntax, notation, axiom, sorry.
-/
import Derived.Test.YteoonhidjldnfaaDoorRows
import GoSem.ClaimSeven
namespace Go.Proofs.YteoonhidjldnfaaDoor
namespace Rows

/-- THE TIED CARD OF 'galleylaw08.LeafNames'. -/
def leafNamesCard : Claim7 := { stood := { row := leafNamesRow, standIns := [], harness := (true, "cc1b12544324edbc227c325cb534074517f5f036c25c33c6f48be872920b984e"), looks := false }, kinds := [], alts := [], laidByText := true, laidKinds := [.data], laidTests := true, laidLooks := .later }
def LeafNamesCardSaid : Prop := Claim7.holds Tryd.pinned (.plain (OpenSpec.ofChange leafNamesSpec)) leafNamesCard

/-- THE TIED CARD OF 'galleylaw08.LeafBorders'. -/
def leafBordersCard : Claim7 := { stood := { row := leafBordersRow, standIns := [], harness := (true, "cc1b12544324edbc227c325cb534074517f5f036c25c33c6f48be872920b984e"), looks := false }, kinds := [], alts := [], laidByText := true, laidKinds := [.data], laidTests := true, laidLooks := .later }
def LeafBordersCardSaid : Prop := Claim7.holds Tryd.pinned (.plain (OpenSpec.ofChange leafBordersSpec)) leafBordersCard

/-- THE TIED CARD OF 'galleylaw08.LeafNil'. -/
def leafNilCard : Claim7 := { stood := { row := leafNilRow, standIns := [], harness := (true, "cc1b12544324edbc227c325cb534074517f5f036c25c33c6f48be872920b984e"), looks := false }, kinds := [], alts := [], laidByText := true, laidKinds := [.data], laidTests := true, laidLooks := .later }
def LeafNilCardSaid : Prop := Claim7.holds Tryd.pinned (.plain (OpenSpec.ofChange leafNilSpec)) leafNilCard

/-- THE TIED CARD OF 'galleylaw08.LeafMemory'. -/
def leafMemoryCard : Claim7 := { stood := { row := leafMemoryRow, standIns := [], harness := (true, "cc1b12544324edbc227c325cb534074517f5f036c25c33c6f48be872920b984e"), looks := false }, kinds := [], alts := [], laidByText := true, laidKinds := [.data], laidTests := true, laidLooks := .later }
def LeafMemoryCardSaid : Prop := Claim7.holds Tryd.pinned (.plain (OpenSpec.ofChange leafMemorySpec)) leafMemoryCard

/-- THE TIED CARD OF 'galleylaw08.LeafJoins'. -/
def leafJoinsCard : Claim7 := { stood := { row := leafJoinsRow, standIns := [], harness := (true, "cc1b12544324edbc227c325cb534074517f5f036c25c33c6f48be872920b984e"), looks := false }, kinds := [], alts := [], laidByText := true, laidKinds := [.data], laidTests := true, laidLooks := .later }
def LeafJoinsCardSaid : Prop := Claim7.holds Tryd.pinned (.plain (OpenSpec.ofChange leafJoinsSpec)) leafJoinsCard

/-- THE TIED CARD OF 'galleylaw08.LeafCuts'. -/
def leafCutsCard : Claim7 := { stood := { row := leafCutsRow, standIns := [], harness := (true, "cc1b12544324edbc227c325cb534074517f5f036c25c33c6f48be872920b984e"), looks := false }, kinds := [], alts := [], laidByText := true, laidKinds := [.data, .data, .data, .data], laidTests := true, laidLooks := .later }
def LeafCutsCardSaid : Prop := Claim7.holds Tryd.pinned (.plain (OpenSpec.ofChange leafCutsSpec)) leafCutsCard

/-- THE TIED CARD OF 'galleylaw08.LeafParts'. -/
def leafPartsCard : Claim7 := { stood := { row := leafPartsRow, standIns := [], harness := (true, "cc1b12544324edbc227c325cb534074517f5f036c25c33c6f48be872920b984e"), looks := false }, kinds := [], alts := [], laidByText := true, laidKinds := [.data, .data, .data, .data], laidTests := true, laidLooks := .later }
def LeafPartsCardSaid : Prop := Claim7.holds Tryd.pinned (.plain (OpenSpec.ofChange leafPartsSpec)) leafPartsCard

/-- THE SECOND FORM's CARD OF 'galleylaw08.LeafNames'. -/
def leafNamesUptoCard : Claim7 := { stood := { row := leafNamesUptoRow, standIns := [], harness := (true, "cc1b12544324edbc227c325cb534074517f5f036c25c33c6f48be872920b984e"), looks := false }, kinds := [], alts := [], laidByText := true, laidKinds := [.data], laidTests := true, laidLooks := .later }
def LeafNamesUptoCardSaid : Prop := Claim7.holds Tryd.pinned (.plain (OpenSpec.upto leafNamesSpec)) leafNamesUptoCard

/-- THE SECOND FORM's CARD OF 'galleylaw08.LeafBorders'. -/
def leafBordersUptoCard : Claim7 := { stood := { row := leafBordersUptoRow, standIns := [], harness := (true, "cc1b12544324edbc227c325cb534074517f5f036c25c33c6f48be872920b984e"), looks := false }, kinds := [], alts := [], laidByText := true, laidKinds := [.data], laidTests := true, laidLooks := .later }
def LeafBordersUptoCardSaid : Prop := Claim7.holds Tryd.pinned (.plain (OpenSpec.upto leafBordersSpec)) leafBordersUptoCard

/-- THE SECOND FORM's CARD OF 'galleylaw08.LeafNil'. -/
def leafNilUptoCard : Claim7 := { stood := { row := leafNilUptoRow, standIns := [], harness := (true, "cc1b12544324edbc227c325cb534074517f5f036c25c33c6f48be872920b984e"), looks := false }, kinds := [], alts := [], laidByText := true, laidKinds := [.data], laidTests := true, laidLooks := .later }
def LeafNilUptoCardSaid : Prop := Claim7.holds Tryd.pinned (.plain (OpenSpec.upto leafNilSpec)) leafNilUptoCard

/-- THE SECOND FORM's CARD OF 'galleylaw08.LeafMemory'. -/
def leafMemoryUptoCard : Claim7 := { stood := { row := leafMemoryUptoRow, standIns := [], harness := (true, "cc1b12544324edbc227c325cb534074517f5f036c25c33c6f48be872920b984e"), looks := false }, kinds := [], alts := [], laidByText := true, laidKinds := [.data], laidTests := true, laidLooks := .later }
def LeafMemoryUptoCardSaid : Prop := Claim7.holds Tryd.pinned (.plain (OpenSpec.upto leafMemorySpec)) leafMemoryUptoCard

/-- THE SECOND FORM's CARD OF 'galleylaw08.LeafJoins'. -/
def leafJoinsUptoCard : Claim7 := { stood := { row := leafJoinsUptoRow, standIns := [], harness := (true, "cc1b12544324edbc227c325cb534074517f5f036c25c33c6f48be872920b984e"), looks := false }, kinds := [], alts := [], laidByText := true, laidKinds := [.data], laidTests := true, laidLooks := .later }
def LeafJoinsUptoCardSaid : Prop := Claim7.holds Tryd.pinned (.plain (OpenSpec.upto leafJoinsSpec)) leafJoinsUptoCard

/-- THE SECOND FORM's CARD OF 'galleylaw08.LeafCuts'. -/
def leafCutsUptoCard : Claim7 := { stood := { row := leafCutsUptoRow, standIns := [], harness := (true, "cc1b12544324edbc227c325cb534074517f5f036c25c33c6f48be872920b984e"), looks := false }, kinds := [], alts := [], laidByText := true, laidKinds := [.data, .data, .data, .data], laidTests := true, laidLooks := .later }
def LeafCutsUptoCardSaid : Prop := Claim7.holds Tryd.pinned (.plain (OpenSpec.upto leafCutsSpec)) leafCutsUptoCard

/-- THE SECOND FORM's CARD OF 'galleylaw08.LeafParts'. -/
def leafPartsUptoCard : Claim7 := { stood := { row := leafPartsUptoRow, standIns := [], harness := (true, "cc1b12544324edbc227c325cb534074517f5f036c25c33c6f48be872920b984e"), looks := false }, kinds := [], alts := [], laidByText := true, laidKinds := [.data, .data, .data, .data], laidTests := true, laidLooks := .later }
def LeafPartsUptoCardSaid : Prop := Claim7.holds Tryd.pinned (.plain (OpenSpec.upto leafPartsSpec)) leafPartsUptoCard
end Rows
end Go.Proofs.YteoonhidjldnfaaDoor
