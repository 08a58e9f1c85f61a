/-
  NARROWER THAN 'FOR EVERY INPUT', by the rows' own cells (each row's printed sentence says how): WeldNames: laid · WeldOf: laid · WeldAny: laid · WeldJoins: laid · WeldBytes: laid · WeldSum: laid · WeldPieces: laid.
  DERIVED. THE GIVEN ROWS OF THIS SEAT. 7 by the template 'for every input the law returns true; each argument reads behind the call as it read before'; 0 by the template 'total and deterministic' (their statements: YtaojbcplmdjfnaaDoorTotals.lean).
  GIVEN WITH THE SEED: the statements are not yours to turn. If you find one false, say at which input.
  Laid BY PROGRAM, IN A SANDBOX (cutbox-rows.mjs): the forced cells as the released guide's own fill.sh prints them over the translation 067706e4c09aa4c9… (all of the seat's roots in one cut). By AI agents, Wed Nov 11 2026. No macro, syntax, notation, axiom, sorry.
-/
import Derived.Test.YtaojbcplmdjfnaaDoorChecked
import GoSem.Claim
import GoSem.ClaimJoined
import GoSem.ClaimMapViews
import Derived.JoinedTies
import Derived.KernelRfl
namespace Go.Proofs.YtaojbcplmdjfnaaDoor
/- THE CELL 'sum', in the pinned program and in every row, IS THE sha256 OF THE DUMP (.gsa) THAT YtaojbcplmdjfnaaDoorProg.lean LOADS. Nothing in Lean hashes anything: it is a label: what it is worth is what the hold of that sum in a sandbox is worth. -/
noncomputable def Tryd.pinned : Pinned := { name := "ytaojbcplmdjfnaadoor", sum := "067706e4c09aa4c94c2f5e5ceed80d4e06d64a0bd28040cf25da60d527db5f4a", checked := Tryd.checked }
namespace Rows
def none {H : Type} : Left H := { results := [], args := [] }

/- WHAT THE LISTED PACKAGE-LEVEL VARIABLES READ AS WHEN THE CALL BEGINS. Each datum BY PROGRAM (the guide's laid-datum.mjs) off the statement by which the dump's own 'gosem.cut.vars' lays the variable. In a bare row this is a premise. The card (YtaojbcplmdjfnaaDoorCards.lean) ties it to the program's text. -/
def laid_galley_octet_spans {H : Type} : DataW H := .agg [.agg [.lit (.int .i64 0), .lit (.int .i64 127), .lit (.int .i64 1)], .agg [.lit (.int .i64 128), .lit (.int .i64 191), .lit (.int .i64 2)], .agg [.lit (.int .i64 192), .lit (.int .i64 193), .lit (.int .i64 6)], .agg [.lit (.int .i64 194), .lit (.int .i64 223), .lit (.int .i64 3)], .agg [.lit (.int .i64 224), .lit (.int .i64 239), .lit (.int .i64 4)], .agg [.lit (.int .i64 240), .lit (.int .i64 244), .lit (.int .i64 5)], .agg [.lit (.int .i64 245), .lit (.int .i64 255), .lit (.int .i64 6)]]
def laid_galley_octet_needs {H : Type} : DataW H := .agg [.lit (.int .i64 0), .lit (.int .i64 1), .lit (.int .i64 0), .lit (.int .i64 2), .lit (.int .i64 3), .lit (.int .i64 4), .lit (.int .i64 0)]
def laid_galley_octet_masks {H : Type} : DataW H := .agg [.lit (.int .u8 0), .lit (.int .u8 127), .lit (.int .u8 31), .lit (.int .u8 15), .lit (.int .u8 7)]
def laid_galley_step_bad {H : Type} : DataW H := .agg [.lit (.int .i32 65533), .lit (.int .i64 1), .lit (.bool false)]

/-- 'galleylaw05.WeldNames': WHATEVER THE INPUT: true; the input reads as it did. -/
def weldNamesSpec : ChangeSpec := { name := "weldNames", fn := fun _ => fun
  | [] => { results := [.lit (.bool true)], args := [] }
  | _ => none }
def weldNamesRow : OpenClaim := { program := "ytaojbcplmdjfnaadoor", sum := "067706e4c09aa4c94c2f5e5ceed80d4e06d64a0bd28040cf25da60d527db5f4a", func := "galley/galleylaw05.WeldNames", spec := "weldNames", unfollowed := true, recurses := true, named := ["galley/step.bad", "galley/octet.masks", "galley/octet.needs", "galley/octet.spans"], apart := false, laid := [("galley/octet.spans", laid_galley_octet_spans), ("galley/octet.needs", laid_galley_octet_needs), ("galley/octet.masks", laid_galley_octet_masks), ("galley/step.bad", laid_galley_step_bad)] }
def WeldNamesSaid : Prop := weldNamesRow.holds Tryd.pinned (OpenSpec.ofChange weldNamesSpec)

/-- ITS FALSE NEIGHBOUR: 'it returns false'. Refute it at one input. -/
def weldNamesWrong : ChangeSpec := { name := "weldNames", fn := fun _ => fun
  | [] => { results := [.lit (.bool false)], args := [] }
  | _ => none }
def WeldNamesWrongFalsely : Prop := weldNamesRow.holds Tryd.pinned (OpenSpec.ofChange weldNamesWrong)

/-- 'galleylaw05.WeldOf': WHATEVER THE INPUT: true; the input reads as it did. -/
def weldOfSpec : ChangeSpec := { name := "weldOf", fn := fun _ => fun
  | [d] => { results := [.lit (.bool true)], args := [d] }
  | _ => none }
def weldOfRow : OpenClaim := { program := "ytaojbcplmdjfnaadoor", sum := "067706e4c09aa4c94c2f5e5ceed80d4e06d64a0bd28040cf25da60d527db5f4a", func := "galley/galleylaw05.WeldOf", spec := "weldOf", unfollowed := true, recurses := true, named := ["galley/step.bad", "galley/octet.masks", "galley/octet.needs", "galley/octet.spans"], apart := false, laid := [("galley/octet.spans", laid_galley_octet_spans), ("galley/octet.needs", laid_galley_octet_needs), ("galley/octet.masks", laid_galley_octet_masks), ("galley/step.bad", laid_galley_step_bad)] }
def WeldOfSaid : Prop := weldOfRow.holds Tryd.pinned (OpenSpec.ofChange weldOfSpec)

/-- ITS FALSE NEIGHBOUR: 'it returns false'. Refute it at one input. -/
def weldOfWrong : ChangeSpec := { name := "weldOf", fn := fun _ => fun
  | [d] => { results := [.lit (.bool false)], args := [d] }
  | _ => none }
def WeldOfWrongFalsely : Prop := weldOfRow.holds Tryd.pinned (OpenSpec.ofChange weldOfWrong)

/-- 'galleylaw05.WeldAny': WHATEVER THE INPUT: true; the input reads as it did. -/
def weldAnySpec : ChangeSpec := { name := "weldAny", fn := fun _ => fun
  | [d1, d2] => { results := [.lit (.bool true)], args := [d1, d2] }
  | _ => none }
def weldAnyRow : OpenClaim := { program := "ytaojbcplmdjfnaadoor", sum := "067706e4c09aa4c94c2f5e5ceed80d4e06d64a0bd28040cf25da60d527db5f4a", func := "galley/galleylaw05.WeldAny", spec := "weldAny", unfollowed := true, recurses := true, named := ["galley/step.bad", "galley/octet.masks", "galley/octet.needs", "galley/octet.spans"], apart := false, laid := [("galley/octet.spans", laid_galley_octet_spans), ("galley/octet.needs", laid_galley_octet_needs), ("galley/octet.masks", laid_galley_octet_masks), ("galley/step.bad", laid_galley_step_bad)] }
def WeldAnySaid : Prop := weldAnyRow.holds Tryd.pinned (OpenSpec.ofChange weldAnySpec)

/-- ITS FALSE NEIGHBOUR: 'it returns false'. Refute it at one input. -/
def weldAnyWrong : ChangeSpec := { name := "weldAny", fn := fun _ => fun
  | [d1, d2] => { results := [.lit (.bool false)], args := [d1, d2] }
  | _ => none }
def WeldAnyWrongFalsely : Prop := weldAnyRow.holds Tryd.pinned (OpenSpec.ofChange weldAnyWrong)

/-- 'galleylaw05.WeldJoins': WHATEVER THE INPUT: true; the input reads as it did. -/
def weldJoinsSpec : ChangeSpec := { name := "weldJoins", fn := fun _ => fun
  | [d1, d2] => { results := [.lit (.bool true)], args := [d1, d2] }
  | _ => none }
def weldJoinsRow : OpenClaim := { program := "ytaojbcplmdjfnaadoor", sum := "067706e4c09aa4c94c2f5e5ceed80d4e06d64a0bd28040cf25da60d527db5f4a", func := "galley/galleylaw05.WeldJoins", spec := "weldJoins", unfollowed := true, recurses := true, named := ["galley/step.bad", "galley/octet.masks", "galley/octet.needs", "galley/octet.spans"], apart := false, laid := [("galley/octet.spans", laid_galley_octet_spans), ("galley/octet.needs", laid_galley_octet_needs), ("galley/octet.masks", laid_galley_octet_masks), ("galley/step.bad", laid_galley_step_bad)] }
def WeldJoinsSaid : Prop := weldJoinsRow.holds Tryd.pinned (OpenSpec.ofChange weldJoinsSpec)

/-- ITS FALSE NEIGHBOUR: 'it returns false'. Refute it at one input. -/
def weldJoinsWrong : ChangeSpec := { name := "weldJoins", fn := fun _ => fun
  | [d1, d2] => { results := [.lit (.bool false)], args := [d1, d2] }
  | _ => none }
def WeldJoinsWrongFalsely : Prop := weldJoinsRow.holds Tryd.pinned (OpenSpec.ofChange weldJoinsWrong)

/-- 'galleylaw05.WeldBytes': WHATEVER THE INPUT: true; the input reads as it did. -/
def weldBytesSpec : ChangeSpec := { name := "weldBytes", fn := fun _ => fun
  | [d] => { results := [.lit (.bool true)], args := [d] }
  | _ => none }
def weldBytesRow : OpenClaim := { program := "ytaojbcplmdjfnaadoor", sum := "067706e4c09aa4c94c2f5e5ceed80d4e06d64a0bd28040cf25da60d527db5f4a", func := "galley/galleylaw05.WeldBytes", spec := "weldBytes", unfollowed := true, recurses := true, named := ["galley/step.bad", "galley/octet.masks", "galley/octet.needs", "galley/octet.spans"], apart := false, laid := [("galley/octet.spans", laid_galley_octet_spans), ("galley/octet.needs", laid_galley_octet_needs), ("galley/octet.masks", laid_galley_octet_masks), ("galley/step.bad", laid_galley_step_bad)] }
def WeldBytesSaid : Prop := weldBytesRow.holds Tryd.pinned (OpenSpec.ofChange weldBytesSpec)

/-- ITS FALSE NEIGHBOUR: 'it returns false'. Refute it at one input. -/
def weldBytesWrong : ChangeSpec := { name := "weldBytes", fn := fun _ => fun
  | [d] => { results := [.lit (.bool false)], args := [d] }
  | _ => none }
def WeldBytesWrongFalsely : Prop := weldBytesRow.holds Tryd.pinned (OpenSpec.ofChange weldBytesWrong)

/-- 'galleylaw05.WeldSum': WHATEVER THE INPUT: true; the input reads as it did. -/
def weldSumSpec : ChangeSpec := { name := "weldSum", fn := fun _ => fun
  | [d] => { results := [.lit (.bool true)], args := [d] }
  | _ => none }
def weldSumRow : OpenClaim := { program := "ytaojbcplmdjfnaadoor", sum := "067706e4c09aa4c94c2f5e5ceed80d4e06d64a0bd28040cf25da60d527db5f4a", func := "galley/galleylaw05.WeldSum", spec := "weldSum", unfollowed := true, recurses := true, named := ["galley/step.bad", "galley/octet.masks", "galley/octet.needs", "galley/octet.spans"], apart := false, laid := [("galley/octet.spans", laid_galley_octet_spans), ("galley/octet.needs", laid_galley_octet_needs), ("galley/octet.masks", laid_galley_octet_masks), ("galley/step.bad", laid_galley_step_bad)] }
def WeldSumSaid : Prop := weldSumRow.holds Tryd.pinned (OpenSpec.ofChange weldSumSpec)

/-- ITS FALSE NEIGHBOUR: 'it returns false'. Refute it at one input. -/
def weldSumWrong : ChangeSpec := { name := "weldSum", fn := fun _ => fun
  | [d] => { results := [.lit (.bool false)], args := [d] }
  | _ => none }
def WeldSumWrongFalsely : Prop := weldSumRow.holds Tryd.pinned (OpenSpec.ofChange weldSumWrong)

/-- 'galleylaw05.WeldPieces': WHATEVER THE INPUT: true; the input reads as it did. -/
def weldPiecesSpec : ChangeSpec := { name := "weldPieces", fn := fun _ => fun
  | [d] => { results := [.lit (.bool true)], args := [d] }
  | _ => none }
def weldPiecesRow : OpenClaim := { program := "ytaojbcplmdjfnaadoor", sum := "067706e4c09aa4c94c2f5e5ceed80d4e06d64a0bd28040cf25da60d527db5f4a", func := "galley/galleylaw05.WeldPieces", spec := "weldPieces", unfollowed := true, recurses := true, named := ["galley/step.bad", "galley/octet.masks", "galley/octet.needs", "galley/octet.spans"], apart := false, laid := [("galley/octet.spans", laid_galley_octet_spans), ("galley/octet.needs", laid_galley_octet_needs), ("galley/octet.masks", laid_galley_octet_masks), ("galley/step.bad", laid_galley_step_bad)] }
def WeldPiecesSaid : Prop := weldPiecesRow.holds Tryd.pinned (OpenSpec.ofChange weldPiecesSpec)

/-- ITS FALSE NEIGHBOUR: 'it returns false'. Refute it at one input. -/
def weldPiecesWrong : ChangeSpec := { name := "weldPieces", fn := fun _ => fun
  | [d] => { results := [.lit (.bool false)], args := [d] }
  | _ => none }
def WeldPiecesWrongFalsely : Prop := weldPiecesRow.holds Tryd.pinned (OpenSpec.ofChange weldPiecesWrong)

/- THE SECOND FORM. 'bulk': how many values and letters a reading holds, each counted each time it is reached (what is shared counts as often as it is met; a slice's spare places count too). A statement '..UptoSaid' is the law's where the arguments, and the package variables that the reading takes, are together of bulk at most 1048576: NARROWER than '..Said'. Prove '..Said' where nothing that the law and all that it calls make is longer than what came in: it says more and counts as full. Else prove '..UptoSaid'. A law counts once. -/
mutual
def uptoBulk {H : Type} : DataW H → Nat
  | .lit (.string bytes) => bytes.length + 1
  | .lit _ => 1
  | .nil => 1
  | .ptr d => uptoBulk d + 1
  | .slice elems spare => uptoBulkAll elems + uptoBulkAll spare + 1
  | .agg parts => uptoBulkAll parts + 1
  | .iface _ d => uptoBulk d + 1
  | .map entries => uptoBulkEntries entries + 1
  | .held _ => 1
def uptoBulkAll {H : Type} : List (DataW H) → Nat
  | [] => 0
  | d :: r => uptoBulk d + uptoBulkAll r
def uptoBulkEntries {H : Type} : List (Lit × DataW H) → Nat
  | [] => 0
  | x :: r => uptoBulkEntry x + uptoBulkEntries r
def uptoBulkEntry {H : Type} : Lit × DataW H → Nat
  | (.string bytes, d) => bytes.length + uptoBulk d + 1
  | (_, d) => uptoBulk d + 1
 end
def uptoSmall : (H : Type) → List (DataW H) → Bool := fun _ ds => decide (uptoBulkAll ds ≤ 1048576)
def OpenSpec.upto (s : _root_.Go.ChangeSpec) : _root_.Go.OpenSpec := { _root_.Go.OpenSpec.ofChange s with cond := some uptoSmall }

/-- 'galleylaw05.WeldNames', WHERE WHAT IT READS IS OF BULK AT MOST 1048576: true; the input reads as it did. -/
def weldNamesUptoRow : OpenClaim := { program := "ytaojbcplmdjfnaadoor", sum := "067706e4c09aa4c94c2f5e5ceed80d4e06d64a0bd28040cf25da60d527db5f4a", func := "galley/galleylaw05.WeldNames", spec := "weldNames", unfollowed := true, recurses := true, named := ["galley/step.bad", "galley/octet.masks", "galley/octet.needs", "galley/octet.spans"], apart := false, laid := [("galley/octet.spans", laid_galley_octet_spans), ("galley/octet.needs", laid_galley_octet_needs), ("galley/octet.masks", laid_galley_octet_masks), ("galley/step.bad", laid_galley_step_bad)], narrowed := true }
def WeldNamesUptoSaid : Prop := weldNamesUptoRow.holds Tryd.pinned (OpenSpec.upto weldNamesSpec)

/-- 'galleylaw05.WeldOf', WHERE WHAT IT READS IS OF BULK AT MOST 1048576: true; the input reads as it did. -/
def weldOfUptoRow : OpenClaim := { program := "ytaojbcplmdjfnaadoor", sum := "067706e4c09aa4c94c2f5e5ceed80d4e06d64a0bd28040cf25da60d527db5f4a", func := "galley/galleylaw05.WeldOf", spec := "weldOf", unfollowed := true, recurses := true, named := ["galley/step.bad", "galley/octet.masks", "galley/octet.needs", "galley/octet.spans"], apart := false, laid := [("galley/octet.spans", laid_galley_octet_spans), ("galley/octet.needs", laid_galley_octet_needs), ("galley/octet.masks", laid_galley_octet_masks), ("galley/step.bad", laid_galley_step_bad)], narrowed := true }
def WeldOfUptoSaid : Prop := weldOfUptoRow.holds Tryd.pinned (OpenSpec.upto weldOfSpec)

/-- 'galleylaw05.WeldAny', WHERE WHAT IT READS IS OF BULK AT MOST 1048576: true; the input reads as it did. -/
def weldAnyUptoRow : OpenClaim := { program := "ytaojbcplmdjfnaadoor", sum := "067706e4c09aa4c94c2f5e5ceed80d4e06d64a0bd28040cf25da60d527db5f4a", func := "galley/galleylaw05.WeldAny", spec := "weldAny", unfollowed := true, recurses := true, named := ["galley/step.bad", "galley/octet.masks", "galley/octet.needs", "galley/octet.spans"], apart := false, laid := [("galley/octet.spans", laid_galley_octet_spans), ("galley/octet.needs", laid_galley_octet_needs), ("galley/octet.masks", laid_galley_octet_masks), ("galley/step.bad", laid_galley_step_bad)], narrowed := true }
def WeldAnyUptoSaid : Prop := weldAnyUptoRow.holds Tryd.pinned (OpenSpec.upto weldAnySpec)

/-- 'galleylaw05.WeldJoins', WHERE WHAT IT READS IS OF BULK AT MOST 1048576: true; the input reads as it did. -/
def weldJoinsUptoRow : OpenClaim := { program := "ytaojbcplmdjfnaadoor", sum := "067706e4c09aa4c94c2f5e5ceed80d4e06d64a0bd28040cf25da60d527db5f4a", func := "galley/galleylaw05.WeldJoins", spec := "weldJoins", unfollowed := true, recurses := true, named := ["galley/step.bad", "galley/octet.masks", "galley/octet.needs", "galley/octet.spans"], apart := false, laid := [("galley/octet.spans", laid_galley_octet_spans), ("galley/octet.needs", laid_galley_octet_needs), ("galley/octet.masks", laid_galley_octet_masks), ("galley/step.bad", laid_galley_step_bad)], narrowed := true }
def WeldJoinsUptoSaid : Prop := weldJoinsUptoRow.holds Tryd.pinned (OpenSpec.upto weldJoinsSpec)

/-- 'galleylaw05.WeldBytes', WHERE WHAT IT READS IS OF BULK AT MOST 1048576: true; the input reads as it did. -/
def weldBytesUptoRow : OpenClaim := { program := "ytaojbcplmdjfnaadoor", sum := "067706e4c09aa4c94c2f5e5ceed80d4e06d64a0bd28040cf25da60d527db5f4a", func := "galley/galleylaw05.WeldBytes", spec := "weldBytes", unfollowed := true, recurses := true, named := ["galley/step.bad", "galley/octet.masks", "galley/octet.needs", "galley/octet.spans"], apart := false, laid := [("galley/octet.spans", laid_galley_octet_spans), ("galley/octet.needs", laid_galley_octet_needs), ("galley/octet.masks", laid_galley_octet_masks), ("galley/step.bad", laid_galley_step_bad)], narrowed := true }
def WeldBytesUptoSaid : Prop := weldBytesUptoRow.holds Tryd.pinned (OpenSpec.upto weldBytesSpec)

/-- 'galleylaw05.WeldSum', WHERE WHAT IT READS IS OF BULK AT MOST 1048576: true; the input reads as it did. -/
def weldSumUptoRow : OpenClaim := { program := "ytaojbcplmdjfnaadoor", sum := "067706e4c09aa4c94c2f5e5ceed80d4e06d64a0bd28040cf25da60d527db5f4a", func := "galley/galleylaw05.WeldSum", spec := "weldSum", unfollowed := true, recurses := true, named := ["galley/step.bad", "galley/octet.masks", "galley/octet.needs", "galley/octet.spans"], apart := false, laid := [("galley/octet.spans", laid_galley_octet_spans), ("galley/octet.needs", laid_galley_octet_needs), ("galley/octet.masks", laid_galley_octet_masks), ("galley/step.bad", laid_galley_step_bad)], narrowed := true }
def WeldSumUptoSaid : Prop := weldSumUptoRow.holds Tryd.pinned (OpenSpec.upto weldSumSpec)

/-- 'galleylaw05.WeldPieces', WHERE WHAT IT READS IS OF BULK AT MOST 1048576: true; the input reads as it did. -/
def weldPiecesUptoRow : OpenClaim := { program := "ytaojbcplmdjfnaadoor", sum := "067706e4c09aa4c94c2f5e5ceed80d4e06d64a0bd28040cf25da60d527db5f4a", func := "galley/galleylaw05.WeldPieces", spec := "weldPieces", unfollowed := true, recurses := true, named := ["galley/step.bad", "galley/octet.masks", "galley/octet.needs", "galley/octet.spans"], apart := false, laid := [("galley/octet.spans", laid_galley_octet_spans), ("galley/octet.needs", laid_galley_octet_needs), ("galley/octet.masks", laid_galley_octet_masks), ("galley/step.bad", laid_galley_step_bad)], narrowed := true }
def WeldPiecesUptoSaid : Prop := weldPiecesUptoRow.holds Tryd.pinned (OpenSpec.upto weldPiecesSpec)

end Rows
end Go.Proofs.YtaojbcplmdjfnaaDoor
