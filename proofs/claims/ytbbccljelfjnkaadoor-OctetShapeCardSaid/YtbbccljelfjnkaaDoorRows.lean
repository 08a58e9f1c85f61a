/-
  NARROWER THAN 'FOR EVERY INPUT', by the rows' own cells (each row's printed sentence says how): OctetTable: laid · OctetWhole: laid · OctetBytes: laid · OctetBack: laid · OctetShape: laid · OctetWithin: laid · OctetOwn: laid.
  DERIVED. THE GIVEN ROWS OF THIS SEAT. 7 by the template 'for every input the law returns true; each argument reads behind the call as it read before'; 0 by the template 'total and deterministic' (their statements: YtbbccljelfjnkaaDoorTotals.lean).
  GIVEN WITH THE SEED: the statements are not yours to turn. If you find one false, say at which input.
  Laid BY PROGRAM, IN A SANDBOX (cutbox-rows.mjs): the forced cells as the released guide's own fill.sh prints them over the translation cf9496372d90802a… (all of the seat's roots in one cut). By AI agents, Wed Nov 11 2026. No macro, syntax, notation, axiom, sorry.
-/
import Derived.Test.YtbbccljelfjnkaaDoorChecked
import GoSem.Claim
import GoSem.ClaimJoined
import GoSem.ClaimMapViews
import Derived.JoinedTies
import Derived.KernelRfl
namespace Go.Proofs.YtbbccljelfjnkaaDoor
/- THE CELL 'sum', in the pinned program and in every row, IS THE sha256 OF THE DUMP (.gsa) THAT YtbbccljelfjnkaaDoorProg.lean LOADS. Nothing in Lean hashes anything: it is a label: what it is worth is what the hold of that sum in a sandbox is worth. -/
noncomputable def Tryd.pinned : Pinned := { name := "ytbbccljelfjnkaadoor", sum := "cf9496372d90802a69ad5db50ec5170ca25f2b5eca4e467043f2648bb0620393", checked := Tryd.checked }
namespace Rows
def none {H : Type} : Left H := { results := [], args := [] }

/- WHAT THE LISTED PACKAGE-LEVEL VARIABLES READ AS WHEN THE CALL BEGINS. Each datum BY PROGRAM (the guide's laid-datum.mjs) off the statement by which the dump's own 'gosem.cut.vars' lays the variable. In a bare row this is a premise. The card (YtbbccljelfjnkaaDoorCards.lean) ties it to the program's text. -/
def laid_galley_octet_spans {H : Type} : DataW H := .agg [.agg [.lit (.int .i64 0), .lit (.int .i64 127), .lit (.int .i64 1)], .agg [.lit (.int .i64 128), .lit (.int .i64 191), .lit (.int .i64 2)], .agg [.lit (.int .i64 192), .lit (.int .i64 193), .lit (.int .i64 6)], .agg [.lit (.int .i64 194), .lit (.int .i64 223), .lit (.int .i64 3)], .agg [.lit (.int .i64 224), .lit (.int .i64 239), .lit (.int .i64 4)], .agg [.lit (.int .i64 240), .lit (.int .i64 244), .lit (.int .i64 5)], .agg [.lit (.int .i64 245), .lit (.int .i64 255), .lit (.int .i64 6)]]
def laid_galley_octet_needs {H : Type} : DataW H := .agg [.lit (.int .i64 0), .lit (.int .i64 1), .lit (.int .i64 0), .lit (.int .i64 2), .lit (.int .i64 3), .lit (.int .i64 4), .lit (.int .i64 0)]
def laid_galley_octet_masks {H : Type} : DataW H := .agg [.lit (.int .u8 0), .lit (.int .u8 127), .lit (.int .u8 31), .lit (.int .u8 15), .lit (.int .u8 7)]

/-- 'galleylaw01.OctetTable': WHATEVER THE INPUT: true; the input reads as it did. -/
def octetTableSpec : ChangeSpec := { name := "octetTable", fn := fun _ => fun
  | [] => { results := [.lit (.bool true)], args := [] }
  | _ => none }
def octetTableRow : OpenClaim := { program := "ytbbccljelfjnkaadoor", sum := "cf9496372d90802a69ad5db50ec5170ca25f2b5eca4e467043f2648bb0620393", func := "galley/galleylaw01.OctetTable", spec := "octetTable", recurses := true, named := ["galley/octet.spans", "galley/octet.needs", "galley/octet.masks"], apart := false, laid := [("galley/octet.spans", laid_galley_octet_spans), ("galley/octet.needs", laid_galley_octet_needs), ("galley/octet.masks", laid_galley_octet_masks)] }
def OctetTableSaid : Prop := octetTableRow.holds Tryd.pinned (OpenSpec.ofChange octetTableSpec)

/-- ITS FALSE NEIGHBOUR: 'it returns false'. Refute it at one input. -/
def octetTableWrong : ChangeSpec := { name := "octetTable", fn := fun _ => fun
  | [] => { results := [.lit (.bool false)], args := [] }
  | _ => none }
def OctetTableWrongFalsely : Prop := octetTableRow.holds Tryd.pinned (OpenSpec.ofChange octetTableWrong)

/-- 'galleylaw01.OctetWhole': WHATEVER THE INPUT: true; the input reads as it did. -/
def octetWholeSpec : ChangeSpec := { name := "octetWhole", fn := fun _ => fun
  | [d] => { results := [.lit (.bool true)], args := [d] }
  | _ => none }
def octetWholeRow : OpenClaim := { program := "ytbbccljelfjnkaadoor", sum := "cf9496372d90802a69ad5db50ec5170ca25f2b5eca4e467043f2648bb0620393", func := "galley/galleylaw01.OctetWhole", spec := "octetWhole", recurses := true, named := ["galley/octet.spans", "galley/octet.needs", "galley/octet.masks"], apart := false, laid := [("galley/octet.spans", laid_galley_octet_spans), ("galley/octet.needs", laid_galley_octet_needs), ("galley/octet.masks", laid_galley_octet_masks)] }
def OctetWholeSaid : Prop := octetWholeRow.holds Tryd.pinned (OpenSpec.ofChange octetWholeSpec)

/-- ITS FALSE NEIGHBOUR: 'it returns false'. Refute it at one input. -/
def octetWholeWrong : ChangeSpec := { name := "octetWhole", fn := fun _ => fun
  | [d] => { results := [.lit (.bool false)], args := [d] }
  | _ => none }
def OctetWholeWrongFalsely : Prop := octetWholeRow.holds Tryd.pinned (OpenSpec.ofChange octetWholeWrong)

/-- 'galleylaw01.OctetBytes': WHATEVER THE INPUT: true; the input reads as it did. -/
def octetBytesSpec : ChangeSpec := { name := "octetBytes", fn := fun _ => fun
  | [d] => { results := [.lit (.bool true)], args := [d] }
  | _ => none }
def octetBytesRow : OpenClaim := { program := "ytbbccljelfjnkaadoor", sum := "cf9496372d90802a69ad5db50ec5170ca25f2b5eca4e467043f2648bb0620393", func := "galley/galleylaw01.OctetBytes", spec := "octetBytes", recurses := true, named := ["galley/octet.spans", "galley/octet.needs", "galley/octet.masks"], apart := false, laid := [("galley/octet.spans", laid_galley_octet_spans), ("galley/octet.needs", laid_galley_octet_needs), ("galley/octet.masks", laid_galley_octet_masks)] }
def OctetBytesSaid : Prop := octetBytesRow.holds Tryd.pinned (OpenSpec.ofChange octetBytesSpec)

/-- ITS FALSE NEIGHBOUR: 'it returns false'. Refute it at one input. -/
def octetBytesWrong : ChangeSpec := { name := "octetBytes", fn := fun _ => fun
  | [d] => { results := [.lit (.bool false)], args := [d] }
  | _ => none }
def OctetBytesWrongFalsely : Prop := octetBytesRow.holds Tryd.pinned (OpenSpec.ofChange octetBytesWrong)

/-- 'galleylaw01.OctetBack': WHATEVER THE INPUT: true; the input reads as it did. -/
def octetBackSpec : ChangeSpec := { name := "octetBack", fn := fun _ => fun
  | [d1, d2] => { results := [.lit (.bool true)], args := [d1, d2] }
  | _ => none }
def octetBackRow : OpenClaim := { program := "ytbbccljelfjnkaadoor", sum := "cf9496372d90802a69ad5db50ec5170ca25f2b5eca4e467043f2648bb0620393", func := "galley/galleylaw01.OctetBack", spec := "octetBack", recurses := true, named := ["galley/octet.spans", "galley/octet.needs", "galley/octet.masks"], apart := false, laid := [("galley/octet.spans", laid_galley_octet_spans), ("galley/octet.needs", laid_galley_octet_needs), ("galley/octet.masks", laid_galley_octet_masks)] }
def OctetBackSaid : Prop := octetBackRow.holds Tryd.pinned (OpenSpec.ofChange octetBackSpec)

/-- ITS FALSE NEIGHBOUR: 'it returns false'. Refute it at one input. -/
def octetBackWrong : ChangeSpec := { name := "octetBack", fn := fun _ => fun
  | [d1, d2] => { results := [.lit (.bool false)], args := [d1, d2] }
  | _ => none }
def OctetBackWrongFalsely : Prop := octetBackRow.holds Tryd.pinned (OpenSpec.ofChange octetBackWrong)

/-- 'galleylaw01.OctetShape': WHATEVER THE INPUT: true; the input reads as it did. -/
def octetShapeSpec : ChangeSpec := { name := "octetShape", fn := fun _ => fun
  | [d] => { results := [.lit (.bool true)], args := [d] }
  | _ => none }
def octetShapeRow : OpenClaim := { program := "ytbbccljelfjnkaadoor", sum := "cf9496372d90802a69ad5db50ec5170ca25f2b5eca4e467043f2648bb0620393", func := "galley/galleylaw01.OctetShape", spec := "octetShape", recurses := true, named := ["galley/octet.spans", "galley/octet.needs", "galley/octet.masks"], apart := false, laid := [("galley/octet.spans", laid_galley_octet_spans), ("galley/octet.needs", laid_galley_octet_needs), ("galley/octet.masks", laid_galley_octet_masks)] }
def OctetShapeSaid : Prop := octetShapeRow.holds Tryd.pinned (OpenSpec.ofChange octetShapeSpec)

/-- ITS FALSE NEIGHBOUR: 'it returns false'. Refute it at one input. -/
def octetShapeWrong : ChangeSpec := { name := "octetShape", fn := fun _ => fun
  | [d] => { results := [.lit (.bool false)], args := [d] }
  | _ => none }
def OctetShapeWrongFalsely : Prop := octetShapeRow.holds Tryd.pinned (OpenSpec.ofChange octetShapeWrong)

/-- 'galleylaw01.OctetWithin': WHATEVER THE INPUT: true; the input reads as it did. -/
def octetWithinSpec : ChangeSpec := { name := "octetWithin", fn := fun _ => fun
  | [d1, d2] => { results := [.lit (.bool true)], args := [d1, d2] }
  | _ => none }
def octetWithinRow : OpenClaim := { program := "ytbbccljelfjnkaadoor", sum := "cf9496372d90802a69ad5db50ec5170ca25f2b5eca4e467043f2648bb0620393", func := "galley/galleylaw01.OctetWithin", spec := "octetWithin", recurses := true, named := ["galley/octet.spans", "galley/octet.needs", "galley/octet.masks"], apart := false, laid := [("galley/octet.spans", laid_galley_octet_spans), ("galley/octet.needs", laid_galley_octet_needs), ("galley/octet.masks", laid_galley_octet_masks)] }
def OctetWithinSaid : Prop := octetWithinRow.holds Tryd.pinned (OpenSpec.ofChange octetWithinSpec)

/-- ITS FALSE NEIGHBOUR: 'it returns false'. Refute it at one input. -/
def octetWithinWrong : ChangeSpec := { name := "octetWithin", fn := fun _ => fun
  | [d1, d2] => { results := [.lit (.bool false)], args := [d1, d2] }
  | _ => none }
def OctetWithinWrongFalsely : Prop := octetWithinRow.holds Tryd.pinned (OpenSpec.ofChange octetWithinWrong)

/-- 'galleylaw01.OctetOwn': WHATEVER THE INPUT: true; the input reads as it did. -/
def octetOwnSpec : ChangeSpec := { name := "octetOwn", fn := fun _ => fun
  | [d1, d2] => { results := [.lit (.bool true)], args := [d1, d2] }
  | _ => none }
def octetOwnRow : OpenClaim := { program := "ytbbccljelfjnkaadoor", sum := "cf9496372d90802a69ad5db50ec5170ca25f2b5eca4e467043f2648bb0620393", func := "galley/galleylaw01.OctetOwn", spec := "octetOwn", recurses := true, named := ["galley/octet.spans", "galley/octet.needs", "galley/octet.masks"], apart := false, laid := [("galley/octet.spans", laid_galley_octet_spans), ("galley/octet.needs", laid_galley_octet_needs), ("galley/octet.masks", laid_galley_octet_masks)] }
def OctetOwnSaid : Prop := octetOwnRow.holds Tryd.pinned (OpenSpec.ofChange octetOwnSpec)

/-- ITS FALSE NEIGHBOUR: 'it returns false'. Refute it at one input. -/
def octetOwnWrong : ChangeSpec := { name := "octetOwn", fn := fun _ => fun
  | [d1, d2] => { results := [.lit (.bool false)], args := [d1, d2] }
  | _ => none }
def OctetOwnWrongFalsely : Prop := octetOwnRow.holds Tryd.pinned (OpenSpec.ofChange octetOwnWrong)

/- THE SECOND FORM. 'bulk': how many values and letters a reading holds, each counted each time it is reached (what is shared counts as often as it is met; a slice's spare places count too). A statement '..UptoSaid' is the law's where the arguments, and the package variables that the reading takes, are together of bulk at most 1048576: NARROWER than '..Said'. Prove '..Said' where nothing that the law and all that it calls make is longer than what came in: it says more and counts as full. Else prove '..UptoSaid'. A law counts once. -/
mutual
def uptoBulk {H : Type} : DataW H → Nat
  | .lit (.string bytes) => bytes.length + 1
  | .lit _ => 1
  | .nil => 1
  | .ptr d => uptoBulk d + 1
  | .slice elems spare => uptoBulkAll elems + uptoBulkAll spare + 1
  | .agg parts => uptoBulkAll parts + 1
  | .iface _ d => uptoBulk d + 1
  | .map entries => uptoBulkEntries entries + 1
  | .held _ => 1
def uptoBulkAll {H : Type} : List (DataW H) → Nat
  | [] => 0
  | d :: r => uptoBulk d + uptoBulkAll r
def uptoBulkEntries {H : Type} : List (Lit × DataW H) → Nat
  | [] => 0
  | x :: r => uptoBulkEntry x + uptoBulkEntries r
def uptoBulkEntry {H : Type} : Lit × DataW H → Nat
  | (.string bytes, d) => bytes.length + uptoBulk d + 1
  | (_, d) => uptoBulk d + 1
 end
def uptoSmall : (H : Type) → List (DataW H) → Bool := fun _ ds => decide (uptoBulkAll ds ≤ 1048576)
def OpenSpec.upto (s : _root_.Go.ChangeSpec) : _root_.Go.OpenSpec := { _root_.Go.OpenSpec.ofChange s with cond := some uptoSmall }

/-- 'galleylaw01.OctetTable', WHERE WHAT IT READS IS OF BULK AT MOST 1048576: true; the input reads as it did. -/
def octetTableUptoRow : OpenClaim := { program := "ytbbccljelfjnkaadoor", sum := "cf9496372d90802a69ad5db50ec5170ca25f2b5eca4e467043f2648bb0620393", func := "galley/galleylaw01.OctetTable", spec := "octetTable", recurses := true, named := ["galley/octet.spans", "galley/octet.needs", "galley/octet.masks"], apart := false, laid := [("galley/octet.spans", laid_galley_octet_spans), ("galley/octet.needs", laid_galley_octet_needs), ("galley/octet.masks", laid_galley_octet_masks)], narrowed := true }
def OctetTableUptoSaid : Prop := octetTableUptoRow.holds Tryd.pinned (OpenSpec.upto octetTableSpec)

/-- 'galleylaw01.OctetWhole', WHERE WHAT IT READS IS OF BULK AT MOST 1048576: true; the input reads as it did. -/
def octetWholeUptoRow : OpenClaim := { program := "ytbbccljelfjnkaadoor", sum := "cf9496372d90802a69ad5db50ec5170ca25f2b5eca4e467043f2648bb0620393", func := "galley/galleylaw01.OctetWhole", spec := "octetWhole", recurses := true, named := ["galley/octet.spans", "galley/octet.needs", "galley/octet.masks"], apart := false, laid := [("galley/octet.spans", laid_galley_octet_spans), ("galley/octet.needs", laid_galley_octet_needs), ("galley/octet.masks", laid_galley_octet_masks)], narrowed := true }
def OctetWholeUptoSaid : Prop := octetWholeUptoRow.holds Tryd.pinned (OpenSpec.upto octetWholeSpec)

/-- 'galleylaw01.OctetBytes', WHERE WHAT IT READS IS OF BULK AT MOST 1048576: true; the input reads as it did. -/
def octetBytesUptoRow : OpenClaim := { program := "ytbbccljelfjnkaadoor", sum := "cf9496372d90802a69ad5db50ec5170ca25f2b5eca4e467043f2648bb0620393", func := "galley/galleylaw01.OctetBytes", spec := "octetBytes", recurses := true, named := ["galley/octet.spans", "galley/octet.needs", "galley/octet.masks"], apart := false, laid := [("galley/octet.spans", laid_galley_octet_spans), ("galley/octet.needs", laid_galley_octet_needs), ("galley/octet.masks", laid_galley_octet_masks)], narrowed := true }
def OctetBytesUptoSaid : Prop := octetBytesUptoRow.holds Tryd.pinned (OpenSpec.upto octetBytesSpec)

/-- 'galleylaw01.OctetBack', WHERE WHAT IT READS IS OF BULK AT MOST 1048576: true; the input reads as it did. -/
def octetBackUptoRow : OpenClaim := { program := "ytbbccljelfjnkaadoor", sum := "cf9496372d90802a69ad5db50ec5170ca25f2b5eca4e467043f2648bb0620393", func := "galley/galleylaw01.OctetBack", spec := "octetBack", recurses := true, named := ["galley/octet.spans", "galley/octet.needs", "galley/octet.masks"], apart := false, laid := [("galley/octet.spans", laid_galley_octet_spans), ("galley/octet.needs", laid_galley_octet_needs), ("galley/octet.masks", laid_galley_octet_masks)], narrowed := true }
def OctetBackUptoSaid : Prop := octetBackUptoRow.holds Tryd.pinned (OpenSpec.upto octetBackSpec)

/-- 'galleylaw01.OctetShape', WHERE WHAT IT READS IS OF BULK AT MOST 1048576: true; the input reads as it did. -/
def octetShapeUptoRow : OpenClaim := { program := "ytbbccljelfjnkaadoor", sum := "cf9496372d90802a69ad5db50ec5170ca25f2b5eca4e467043f2648bb0620393", func := "galley/galleylaw01.OctetShape", spec := "octetShape", recurses := true, named := ["galley/octet.spans", "galley/octet.needs", "galley/octet.masks"], apart := false, laid := [("galley/octet.spans", laid_galley_octet_spans), ("galley/octet.needs", laid_galley_octet_needs), ("galley/octet.masks", laid_galley_octet_masks)], narrowed := true }
def OctetShapeUptoSaid : Prop := octetShapeUptoRow.holds Tryd.pinned (OpenSpec.upto octetShapeSpec)

/-- 'galleylaw01.OctetWithin', WHERE WHAT IT READS IS OF BULK AT MOST 1048576: true; the input reads as it did. -/
def octetWithinUptoRow : OpenClaim := { program := "ytbbccljelfjnkaadoor", sum := "cf9496372d90802a69ad5db50ec5170ca25f2b5eca4e467043f2648bb0620393", func := "galley/galleylaw01.OctetWithin", spec := "octetWithin", recurses := true, named := ["galley/octet.spans", "galley/octet.needs", "galley/octet.masks"], apart := false, laid := [("galley/octet.spans", laid_galley_octet_spans), ("galley/octet.needs", laid_galley_octet_needs), ("galley/octet.masks", laid_galley_octet_masks)], narrowed := true }
def OctetWithinUptoSaid : Prop := octetWithinUptoRow.holds Tryd.pinned (OpenSpec.upto octetWithinSpec)

/-- 'galleylaw01.OctetOwn', WHERE WHAT IT READS IS OF BULK AT MOST 1048576: true; the input reads as it did. -/
def octetOwnUptoRow : OpenClaim := { program := "ytbbccljelfjnkaadoor", sum := "cf9496372d90802a69ad5db50ec5170ca25f2b5eca4e467043f2648bb0620393", func := "galley/galleylaw01.OctetOwn", spec := "octetOwn", recurses := true, named := ["galley/octet.spans", "galley/octet.needs", "galley/octet.masks"], apart := false, laid := [("galley/octet.spans", laid_galley_octet_spans), ("galley/octet.needs", laid_galley_octet_needs), ("galley/octet.masks", laid_galley_octet_masks)], narrowed := true }
def OctetOwnUptoSaid : Prop := octetOwnUptoRow.holds Tryd.pinned (OpenSpec.upto octetOwnSpec)

end Rows
end Go.Proofs.YtbbccljelfjnkaaDoor
