/-
  NARROWER THAN 'FOR EVERY INPUT', by the rows' own cells (each row's printed sentence says how): LeafNames: laid · LeafBorders: laid · LeafNil: laid · LeafMemory: laid · LeafJoins: laid · LeafCuts: laid · LeafParts: laid.
  DERIVED. THE GIVEN ROWS OF THIS SEAT. 7 by the template 'for every input the law returns true; each argument reads behind the call as it read before'; 0 by the template 'total and deterministic' (their statements: YteoonhidjldnfaaDoorTotals.lean).
  GIVEN WITH THE SEED: the statements are not yours to turn. If you find one false, say at which input.
  Laid BY PROGRAM, IN A SANDBOX (cutbox-rows.mjs): the forced cells as the released guide's own fill.sh prints them over the translation d042a75038c07bf4… (all of the seat's roots in one cut). By AI agents, Wed Nov 11 2026. No macro, syntax, notation, axiom, sorry.
-/
import Derived.Test.YteoonhidjldnfaaDoorChecked
import GoSem.Claim
import GoSem.ClaimJoined
import GoSem.ClaimMapViews
import Derived.JoinedTies
import Derived.KernelRfl
namespace Go.Proofs.YteoonhidjldnfaaDoor
/- THE CELL 'sum', in the pinned program and in every row, IS THE sha256 OF THE DUMP (.gsa) THAT YteoonhidjldnfaaDoorProg.lean LOADS. Nothing in Lean hashes anything: it is a label: what it is worth is what the hold of that sum in a sandbox is worth. -/
noncomputable def Tryd.pinned : Pinned := { name := "yteoonhidjldnfaadoor", sum := "d042a75038c07bf45928e5ca3066faec877251273b04c8738ecb28434f2b5612", checked := Tryd.checked }
namespace Rows
def none {H : Type} : Left H := { results := [], args := [] }

/- WHAT THE LISTED PACKAGE-LEVEL VARIABLES READ AS WHEN THE CALL BEGINS. Each datum BY PROGRAM (the guide's laid-datum.mjs) off the statement by which the dump's own 'gosem.cut.vars' lays the variable. In a bare row this is a premise. The card (YteoonhidjldnfaaDoorCards.lean) ties it to the program's text. -/
def laid_galley_step_bad {H : Type} : DataW H := .agg [.lit (.int .i32 65533), .lit (.int .i64 1), .lit (.bool false)]
def laid_galley_octet_spans {H : Type} : DataW H := .agg [.agg [.lit (.int .i64 0), .lit (.int .i64 127), .lit (.int .i64 1)], .agg [.lit (.int .i64 128), .lit (.int .i64 191), .lit (.int .i64 2)], .agg [.lit (.int .i64 192), .lit (.int .i64 193), .lit (.int .i64 6)], .agg [.lit (.int .i64 194), .lit (.int .i64 223), .lit (.int .i64 3)], .agg [.lit (.int .i64 224), .lit (.int .i64 239), .lit (.int .i64 4)], .agg [.lit (.int .i64 240), .lit (.int .i64 244), .lit (.int .i64 5)], .agg [.lit (.int .i64 245), .lit (.int .i64 255), .lit (.int .i64 6)]]
def laid_galley_octet_needs {H : Type} : DataW H := .agg [.lit (.int .i64 0), .lit (.int .i64 1), .lit (.int .i64 0), .lit (.int .i64 2), .lit (.int .i64 3), .lit (.int .i64 4), .lit (.int .i64 0)]
def laid_galley_octet_masks {H : Type} : DataW H := .agg [.lit (.int .u8 0), .lit (.int .u8 127), .lit (.int .u8 31), .lit (.int .u8 15), .lit (.int .u8 7)]

/-- 'galleylaw08.LeafNames': WHATEVER THE INPUT: true; the input reads as it did. -/
def leafNamesSpec : ChangeSpec := { name := "leafNames", fn := fun _ => fun
  | [] => { results := [.lit (.bool true)], args := [] }
  | _ => none }
def leafNamesRow : OpenClaim := { program := "yteoonhidjldnfaadoor", sum := "d042a75038c07bf45928e5ca3066faec877251273b04c8738ecb28434f2b5612", func := "galley/galleylaw08.LeafNames", spec := "leafNames", unfollowed := true, recurses := true, named := ["galley/step.bad"], apart := false, laid := [("galley/step.bad", laid_galley_step_bad)] }
def LeafNamesSaid : Prop := leafNamesRow.holds Tryd.pinned (OpenSpec.ofChange leafNamesSpec)

/-- ITS FALSE NEIGHBOUR: 'it returns false'. Refute it at one input. -/
def leafNamesWrong : ChangeSpec := { name := "leafNames", fn := fun _ => fun
  | [] => { results := [.lit (.bool false)], args := [] }
  | _ => none }
def LeafNamesWrongFalsely : Prop := leafNamesRow.holds Tryd.pinned (OpenSpec.ofChange leafNamesWrong)

/-- 'galleylaw08.LeafBorders': WHATEVER THE INPUT: true; the input reads as it did. -/
def leafBordersSpec : ChangeSpec := { name := "leafBorders", fn := fun _ => fun
  | [d1, d2] => { results := [.lit (.bool true)], args := [d1, d2] }
  | _ => none }
def leafBordersRow : OpenClaim := { program := "yteoonhidjldnfaadoor", sum := "d042a75038c07bf45928e5ca3066faec877251273b04c8738ecb28434f2b5612", func := "galley/galleylaw08.LeafBorders", spec := "leafBorders", unfollowed := true, recurses := true, named := ["galley/step.bad"], apart := false, laid := [("galley/step.bad", laid_galley_step_bad)] }
def LeafBordersSaid : Prop := leafBordersRow.holds Tryd.pinned (OpenSpec.ofChange leafBordersSpec)

/-- ITS FALSE NEIGHBOUR: 'it returns false'. Refute it at one input. -/
def leafBordersWrong : ChangeSpec := { name := "leafBorders", fn := fun _ => fun
  | [d1, d2] => { results := [.lit (.bool false)], args := [d1, d2] }
  | _ => none }
def LeafBordersWrongFalsely : Prop := leafBordersRow.holds Tryd.pinned (OpenSpec.ofChange leafBordersWrong)

/-- 'galleylaw08.LeafNil': WHATEVER THE INPUT: true; the input reads as it did. -/
def leafNilSpec : ChangeSpec := { name := "leafNil", fn := fun _ => fun
  | [d] => { results := [.lit (.bool true)], args := [d] }
  | _ => none }
def leafNilRow : OpenClaim := { program := "yteoonhidjldnfaadoor", sum := "d042a75038c07bf45928e5ca3066faec877251273b04c8738ecb28434f2b5612", func := "galley/galleylaw08.LeafNil", spec := "leafNil", unfollowed := true, recurses := true, named := ["galley/step.bad"], apart := false, laid := [("galley/step.bad", laid_galley_step_bad)] }
def LeafNilSaid : Prop := leafNilRow.holds Tryd.pinned (OpenSpec.ofChange leafNilSpec)

/-- ITS FALSE NEIGHBOUR: 'it returns false'. Refute it at one input. -/
def leafNilWrong : ChangeSpec := { name := "leafNil", fn := fun _ => fun
  | [d] => { results := [.lit (.bool false)], args := [d] }
  | _ => none }
def LeafNilWrongFalsely : Prop := leafNilRow.holds Tryd.pinned (OpenSpec.ofChange leafNilWrong)

/-- 'galleylaw08.LeafMemory': WHATEVER THE INPUT: true; the input reads as it did. -/
def leafMemorySpec : ChangeSpec := { name := "leafMemory", fn := fun _ => fun
  | [d1, d2] => { results := [.lit (.bool true)], args := [d1, d2] }
  | _ => none }
def leafMemoryRow : OpenClaim := { program := "yteoonhidjldnfaadoor", sum := "d042a75038c07bf45928e5ca3066faec877251273b04c8738ecb28434f2b5612", func := "galley/galleylaw08.LeafMemory", spec := "leafMemory", unfollowed := true, recurses := true, named := ["galley/step.bad"], apart := false, laid := [("galley/step.bad", laid_galley_step_bad)] }
def LeafMemorySaid : Prop := leafMemoryRow.holds Tryd.pinned (OpenSpec.ofChange leafMemorySpec)

/-- ITS FALSE NEIGHBOUR: 'it returns false'. Refute it at one input. -/
def leafMemoryWrong : ChangeSpec := { name := "leafMemory", fn := fun _ => fun
  | [d1, d2] => { results := [.lit (.bool false)], args := [d1, d2] }
  | _ => none }
def LeafMemoryWrongFalsely : Prop := leafMemoryRow.holds Tryd.pinned (OpenSpec.ofChange leafMemoryWrong)

/-- 'galleylaw08.LeafJoins': WHATEVER THE INPUT: true; the input reads as it did. -/
def leafJoinsSpec : ChangeSpec := { name := "leafJoins", fn := fun _ => fun
  | [d1, d2] => { results := [.lit (.bool true)], args := [d1, d2] }
  | _ => none }
def leafJoinsRow : OpenClaim := { program := "yteoonhidjldnfaadoor", sum := "d042a75038c07bf45928e5ca3066faec877251273b04c8738ecb28434f2b5612", func := "galley/galleylaw08.LeafJoins", spec := "leafJoins", unfollowed := true, recurses := true, named := ["galley/step.bad"], apart := false, laid := [("galley/step.bad", laid_galley_step_bad)] }
def LeafJoinsSaid : Prop := leafJoinsRow.holds Tryd.pinned (OpenSpec.ofChange leafJoinsSpec)

/-- ITS FALSE NEIGHBOUR: 'it returns false'. Refute it at one input. -/
def leafJoinsWrong : ChangeSpec := { name := "leafJoins", fn := fun _ => fun
  | [d1, d2] => { results := [.lit (.bool false)], args := [d1, d2] }
  | _ => none }
def LeafJoinsWrongFalsely : Prop := leafJoinsRow.holds Tryd.pinned (OpenSpec.ofChange leafJoinsWrong)

/-- 'galleylaw08.LeafCuts': WHATEVER THE INPUT: true; the input reads as it did. -/
def leafCutsSpec : ChangeSpec := { name := "leafCuts", fn := fun _ => fun
  | [d1, d2] => { results := [.lit (.bool true)], args := [d1, d2] }
  | _ => none }
def leafCutsRow : OpenClaim := { program := "yteoonhidjldnfaadoor", sum := "d042a75038c07bf45928e5ca3066faec877251273b04c8738ecb28434f2b5612", func := "galley/galleylaw08.LeafCuts", spec := "leafCuts", unfollowed := true, recurses := true, named := ["galley/step.bad", "galley/octet.masks", "galley/octet.needs", "galley/octet.spans"], apart := false, laid := [("galley/octet.spans", laid_galley_octet_spans), ("galley/octet.needs", laid_galley_octet_needs), ("galley/octet.masks", laid_galley_octet_masks), ("galley/step.bad", laid_galley_step_bad)] }
def LeafCutsSaid : Prop := leafCutsRow.holds Tryd.pinned (OpenSpec.ofChange leafCutsSpec)

/-- ITS FALSE NEIGHBOUR: 'it returns false'. Refute it at one input. -/
def leafCutsWrong : ChangeSpec := { name := "leafCuts", fn := fun _ => fun
  | [d1, d2] => { results := [.lit (.bool false)], args := [d1, d2] }
  | _ => none }
def LeafCutsWrongFalsely : Prop := leafCutsRow.holds Tryd.pinned (OpenSpec.ofChange leafCutsWrong)

/-- 'galleylaw08.LeafParts': WHATEVER THE INPUT: true; the input reads as it did. -/
def leafPartsSpec : ChangeSpec := { name := "leafParts", fn := fun _ => fun
  | [d1, d2] => { results := [.lit (.bool true)], args := [d1, d2] }
  | _ => none }
def leafPartsRow : OpenClaim := { program := "yteoonhidjldnfaadoor", sum := "d042a75038c07bf45928e5ca3066faec877251273b04c8738ecb28434f2b5612", func := "galley/galleylaw08.LeafParts", spec := "leafParts", unfollowed := true, recurses := true, named := ["galley/step.bad", "galley/octet.masks", "galley/octet.needs", "galley/octet.spans"], apart := false, laid := [("galley/octet.spans", laid_galley_octet_spans), ("galley/octet.needs", laid_galley_octet_needs), ("galley/octet.masks", laid_galley_octet_masks), ("galley/step.bad", laid_galley_step_bad)] }
def LeafPartsSaid : Prop := leafPartsRow.holds Tryd.pinned (OpenSpec.ofChange leafPartsSpec)

/-- ITS FALSE NEIGHBOUR: 'it returns false'. Refute it at one input. -/
def leafPartsWrong : ChangeSpec := { name := "leafParts", fn := fun _ => fun
  | [d1, d2] => { results := [.lit (.bool false)], args := [d1, d2] }
  | _ => none }
def LeafPartsWrongFalsely : Prop := leafPartsRow.holds Tryd.pinned (OpenSpec.ofChange leafPartsWrong)

/- THE SECOND FORM. 'bulk': how many values and letters a reading holds, each counted each time it is reached (what is shared counts as often as it is met; a slice's spare places count too). A statement '..UptoSaid' is the law's where the arguments, and the package variables that the reading takes, are together of bulk at most 1048576: NARROWER than '..Said'. Prove '..Said' where nothing that the law and all that it calls make is longer than what came in: it says more and counts as full. Else prove '..UptoSaid'. A law counts once. -/
mutual
def uptoBulk {H : Type} : DataW H → Nat
  | .lit (.string bytes) => bytes.length + 1
  | .lit _ => 1
  | .nil => 1
  | .ptr d => uptoBulk d + 1
  | .slice elems spare => uptoBulkAll elems + uptoBulkAll spare + 1
  | .agg parts => uptoBulkAll parts + 1
  | .iface _ d => uptoBulk d + 1
  | .map entries => uptoBulkEntries entries + 1
  | .held _ => 1
def uptoBulkAll {H : Type} : List (DataW H) → Nat
  | [] => 0
  | d :: r => uptoBulk d + uptoBulkAll r
def uptoBulkEntries {H : Type} : List (Lit × DataW H) → Nat
  | [] => 0
  | x :: r => uptoBulkEntry x + uptoBulkEntries r
def uptoBulkEntry {H : Type} : Lit × DataW H → Nat
  | (.string bytes, d) => bytes.length + uptoBulk d + 1
  | (_, d) => uptoBulk d + 1
 end
def uptoSmall : (H : Type) → List (DataW H) → Bool := fun _ ds => decide (uptoBulkAll ds ≤ 1048576)
def OpenSpec.upto (s : _root_.Go.ChangeSpec) : _root_.Go.OpenSpec := { _root_.Go.OpenSpec.ofChange s with cond := some uptoSmall }

/-- 'galleylaw08.LeafNames', WHERE WHAT IT READS IS OF BULK AT MOST 1048576: true; the input reads as it did. -/
def leafNamesUptoRow : OpenClaim := { program := "yteoonhidjldnfaadoor", sum := "d042a75038c07bf45928e5ca3066faec877251273b04c8738ecb28434f2b5612", func := "galley/galleylaw08.LeafNames", spec := "leafNames", unfollowed := true, recurses := true, named := ["galley/step.bad"], apart := false, laid := [("galley/step.bad", laid_galley_step_bad)], narrowed := true }
def LeafNamesUptoSaid : Prop := leafNamesUptoRow.holds Tryd.pinned (OpenSpec.upto leafNamesSpec)

/-- 'galleylaw08.LeafBorders', WHERE WHAT IT READS IS OF BULK AT MOST 1048576: true; the input reads as it did. -/
def leafBordersUptoRow : OpenClaim := { program := "yteoonhidjldnfaadoor", sum := "d042a75038c07bf45928e5ca3066faec877251273b04c8738ecb28434f2b5612", func := "galley/galleylaw08.LeafBorders", spec := "leafBorders", unfollowed := true, recurses := true, named := ["galley/step.bad"], apart := false, laid := [("galley/step.bad", laid_galley_step_bad)], narrowed := true }
def LeafBordersUptoSaid : Prop := leafBordersUptoRow.holds Tryd.pinned (OpenSpec.upto leafBordersSpec)

/-- 'galleylaw08.LeafNil', WHERE WHAT IT READS IS OF BULK AT MOST 1048576: true; the input reads as it did. -/
def leafNilUptoRow : OpenClaim := { program := "yteoonhidjldnfaadoor", sum := "d042a75038c07bf45928e5ca3066faec877251273b04c8738ecb28434f2b5612", func := "galley/galleylaw08.LeafNil", spec := "leafNil", unfollowed := true, recurses := true, named := ["galley/step.bad"], apart := false, laid := [("galley/step.bad", laid_galley_step_bad)], narrowed := true }
def LeafNilUptoSaid : Prop := leafNilUptoRow.holds Tryd.pinned (OpenSpec.upto leafNilSpec)

/-- 'galleylaw08.LeafMemory', WHERE WHAT IT READS IS OF BULK AT MOST 1048576: true; the input reads as it did. -/
def leafMemoryUptoRow : OpenClaim := { program := "yteoonhidjldnfaadoor", sum := "d042a75038c07bf45928e5ca3066faec877251273b04c8738ecb28434f2b5612", func := "galley/galleylaw08.LeafMemory", spec := "leafMemory", unfollowed := true, recurses := true, named := ["galley/step.bad"], apart := false, laid := [("galley/step.bad", laid_galley_step_bad)], narrowed := true }
def LeafMemoryUptoSaid : Prop := leafMemoryUptoRow.holds Tryd.pinned (OpenSpec.upto leafMemorySpec)

/-- 'galleylaw08.LeafJoins', WHERE WHAT IT READS IS OF BULK AT MOST 1048576: true; the input reads as it did. -/
def leafJoinsUptoRow : OpenClaim := { program := "yteoonhidjldnfaadoor", sum := "d042a75038c07bf45928e5ca3066faec877251273b04c8738ecb28434f2b5612", func := "galley/galleylaw08.LeafJoins", spec := "leafJoins", unfollowed := true, recurses := true, named := ["galley/step.bad"], apart := false, laid := [("galley/step.bad", laid_galley_step_bad)], narrowed := true }
def LeafJoinsUptoSaid : Prop := leafJoinsUptoRow.holds Tryd.pinned (OpenSpec.upto leafJoinsSpec)

/-- 'galleylaw08.LeafCuts', WHERE WHAT IT READS IS OF BULK AT MOST 1048576: true; the input reads as it did. -/
def leafCutsUptoRow : OpenClaim := { program := "yteoonhidjldnfaadoor", sum := "d042a75038c07bf45928e5ca3066faec877251273b04c8738ecb28434f2b5612", func := "galley/galleylaw08.LeafCuts", spec := "leafCuts", unfollowed := true, recurses := true, named := ["galley/step.bad", "galley/octet.masks", "galley/octet.needs", "galley/octet.spans"], apart := false, laid := [("galley/octet.spans", laid_galley_octet_spans), ("galley/octet.needs", laid_galley_octet_needs), ("galley/octet.masks", laid_galley_octet_masks), ("galley/step.bad", laid_galley_step_bad)], narrowed := true }
def LeafCutsUptoSaid : Prop := leafCutsUptoRow.holds Tryd.pinned (OpenSpec.upto leafCutsSpec)

/-- 'galleylaw08.LeafParts', WHERE WHAT IT READS IS OF BULK AT MOST 1048576: true; the input reads as it did. -/
def leafPartsUptoRow : OpenClaim := { program := "yteoonhidjldnfaadoor", sum := "d042a75038c07bf45928e5ca3066faec877251273b04c8738ecb28434f2b5612", func := "galley/galleylaw08.LeafParts", spec := "leafParts", unfollowed := true, recurses := true, named := ["galley/step.bad", "galley/octet.masks", "galley/octet.needs", "galley/octet.spans"], apart := false, laid := [("galley/octet.spans", laid_galley_octet_spans), ("galley/octet.needs", laid_galley_octet_needs), ("galley/octet.masks", laid_galley_octet_masks), ("galley/step.bad", laid_galley_step_bad)], narrowed := true }
def LeafPartsUptoSaid : Prop := leafPartsUptoRow.holds Tryd.pinned (OpenSpec.upto leafPartsSpec)

end Rows
end Go.Proofs.YteoonhidjldnfaaDoor
