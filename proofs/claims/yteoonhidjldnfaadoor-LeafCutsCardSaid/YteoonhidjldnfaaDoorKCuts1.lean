/- Part 1 of the lemmas on which the card leafCuts_card stands (its sentence and conditions stand in the last text). Conditions: as each lemma says. -/
import Derived.Test.YteoonhidjldnfaaDoorKCuts0
import Derived.Test.YteoonhidjldnfaaDoorProg
import Derived.Below
import Derived.Deep.Draws
import Derived.OpenShut
import Derived.ProofKit
import Derived.Lib.LaidTab
import Derived.Laws.Rows
import Derived.KernelRfl
import Derived.Test.YteoonhidjldnfaaDoorCards
import Derived.Test.YteoonhidjldnfaaDoorTie
import Derived.WalkKit
import Derived.Deep.DeepHandedRow
import Derived.LaidSub
import Derived.Laws.BytesArg
import Derived.Laws.Strings
import Derived.Lib.TrimUEq
import Derived.Lib.ConvBytes
import Derived.Lib.SlBytesConst
import Derived.Deep.AppendLies
import Derived.Maps.AppendAt
import Derived.OwnWalk
import Derived.Laws.MakeOwn
import Derived.Laws.OwnMore
import Derived.Deep.OwnRows
import Derived.Tactics
import Derived.Laws.Slices
import Derived.RowKit3
import Derived.Deep.LoopGhost
import Derived.Deep.QuietTactic
import Derived.BigQuiet
import Derived.WideLaws
import Derived.Deep.DeepCutAuto
import Derived.Deep.CutBlock
import Derived.Deep.RegionHeld3
import Derived.Lib.AppendStr
import Derived.ArgAppend
import Derived.Laws.IdiomCopy
import Derived.OrdersHeld
import Derived.Laws.BitsLemmas
import Derived.RowKit
import Derived.Lib.OthersKept
import Derived.Lib.Strings
import Derived.Lib.Slices
import Derived.Lib.Walk
import Derived.Lib.Hide
import Derived.Outline
import Derived.WalkSpells
import Derived.RangeFuncNested
import Derived.RangeFuncBound
import Derived.RangeFuncCalls
import Derived.RangeFuncLeaves
import Derived.RangeFuncBox
import Derived.Shelf.Abstract
import Derived.Shelf.RegionOpen
import Derived.OwnWalkIn
import Derived.TacticsInMore
import Derived.LoopNIn
import Derived.LoopIn
namespace Go.Proofs.YteoonhidjldnfaaDoor.Glob
open Go.RowKit
def spansC : Array Value := #[.int .i64 0, .int .i64 127, .int .i64 1, .int .i64 128, .int .i64 191, .int .i64 2, .int .i64 192, .int .i64 193, .int .i64 6, .int .i64 194, .int .i64 223, .int .i64 3, .int .i64 224, .int .i64 239, .int .i64 4, .int .i64 240, .int .i64 244, .int .i64 5, .int .i64 245, .int .i64 255, .int .i64 6]
def needsC : Array Value := #[.int .i64 0, .int .i64 1, .int .i64 0, .int .i64 2, .int .i64 3, .int .i64 4, .int .i64 0]
def badC : Array Value := #[.int .i32 65533, .int .i64 1, .bool false]
def masksC : Array Value := #[.int .u8 0, .int .u8 127, .int .u8 31, .int .u8 15, .int .u8 7]
def Globs (w : World) : Prop :=
  (∃ t fr, w.heap[3]? = some (.cells spansC t fr)) ∧ (∃ t fr, w.heap[2]? = some (.cells needsC t fr)) ∧ (∃ t fr, w.heap[1]? = some (.cells masksC t fr)) ∧ (∃ t fr, w.heap[0]? = some (.cells badC t fr))
theorem lt_of_heap {w : World} {k : Nat} {o : Obj} (h : w.heap[k]? = some o) : k < w.heap.size := (Array.getElem?_eq_some_iff.1 h).1
theorem Globs_of {w w' : World} (h : Globs w) (hk : ∀ k, k < w.heap.size → w'.heap[k]? = w.heap[k]?) : Globs w' := by
  obtain ⟨⟨t0, f0, h0⟩, ⟨t1, f1, h1⟩, ⟨t2, f2, h2⟩, ⟨t3, f3, h3⟩⟩ := h
  exact ⟨⟨t0, f0, (hk _ (lt_of_heap h0)).trans h0⟩, ⟨t1, f1, (hk _ (lt_of_heap h1)).trans h1⟩, ⟨t2, f2, (hk _ (lt_of_heap h2)).trans h2⟩, ⟨t3, f3, (hk _ (lt_of_heap h3)).trans h3⟩⟩
theorem Globs_below {w w' : World} (h : Globs w) (hb : Below w.heap.size w w') : Globs w' := Globs_of h hb.block
theorem Globs_alloc {w : World} (h : Globs w) (o : Obj) : Globs (w.alloc o) := Globs_of h fun k hk => Below.heap_alloc w o k hk
theorem Globs.spans {w : World} (h : Globs w) : ∃ t fr, w.heap[3]? = some (.cells spansC t fr) := h.1
theorem Globs.needs_cell {w : World} (h : Globs w) (i : Nat) : w.cell? ⟨2, i, none⟩ = needsC[i]? := by
  obtain ⟨_, ⟨t0, f0, h0⟩, _⟩ := h
  exact cell_of_row w _ i _ t0 f0 h0
theorem Globs.masks_cell {w : World} (h : Globs w) (i : Nat) : w.cell? ⟨1, i, none⟩ = masksC[i]? := by
  obtain ⟨_, _, ⟨t0, f0, h0⟩, _⟩ := h
  exact cell_of_row w _ i _ t0 f0 h0
theorem Globs.bad {w : World} (h : Globs w) : ∃ t fr, w.heap[0]? = some (.cells badC t fr) := h.2.2.2
end Go.Proofs.YteoonhidjldnfaaDoor.Glob
namespace Go.Proofs.YteoonhidjldnfaaDoor.Pr
def drop1 (l : List Int) : List Int := l.drop 1
def strOfRune (r : Int) : ByteArray := Utf8.encode r
theorem run_convert_rune {P : Program} (w : World) (src dst : TypeId) (n : Int) (hs : P.underlying src = some (.int .i32)) (hd : P.underlying dst = some .string) :
    (convert src dst (.int .i32 n)).run P w = .ok (.string (strOfRune n)) w := by
  simp [convert, run_underlying hs, run_underlying hd, Conv.intToString, strOfRune]
end Go.Proofs.YteoonhidjldnfaaDoor.Pr

namespace Go.Proofs.YteoonhidjldnfaaDoor.Laid
open Go.ChangeShapes Go.WideShapes Go.ChangeAt Go.RowKit
set_option linter.unusedVariables false
set_option linter.unusedSimpArgs false
theorem gSpans : Tryd.prog.globalNamed "galley/octet.spans" = some 3 := by kernel_rfl
theorem gNeeds : Tryd.prog.globalNamed "galley/octet.needs" = some 2 := by kernel_rfl
theorem gMasks : Tryd.prog.globalNamed "galley/octet.masks" = some 1 := by kernel_rfl
theorem tySpans : (Tryd.prog.globals[3]?).map (·.type) = some 98 := by kernel_rfl
theorem tyNeeds : (Tryd.prog.globals[2]?).map (·.type) = some 95 := by kernel_rfl
theorem tyMasks : (Tryd.prog.globals[1]?).map (·.type) = some 89 := by kernel_rfl
theorem gBad : Tryd.prog.globalNamed "galley/step.bad" = some 0 := by kernel_rfl
theorem tyBad : (Tryd.prog.globals[0]?).map (·.type) = some 64 := by kernel_rfl
theorem cStep : Tryd.prog.cellsOf 64 = 3 := by kernel_rfl
theorem cRune : Tryd.prog.cellsOf 21 = 1 := by kernel_rfl
theorem cBool : Tryd.prog.cellsOf 4 = 1 := by kernel_rfl
theorem cInt : Tryd.prog.cellsOf 3 = 1 := by kernel_rfl
theorem cCls : Tryd.prog.cellsOf 92 = 1 := by kernel_rfl
theorem cU8 : Tryd.prog.cellsOf 5 = 1 := by kernel_rfl
theorem cSpan : Tryd.prog.cellsOf 97 = 3 := by kernel_rfl
theorem cSpans : Tryd.prog.cellsOf 98 = 21 := by kernel_rfl
theorem cNeeds : Tryd.prog.cellsOf 95 = 7 := by kernel_rfl
theorem cMasks : Tryd.prog.cellsOf 89 = 5 := by kernel_rfl
theorem heap_of_var {W : World} {n : String} {g : Nat} {cs : Array Value} (hg : Tryd.prog.globalNamed n = some g) (hv : W.var? Tryd.prog n = some cs) : ∃ t fr, W.heap[g]? = some (.cells cs t fr) := by
  unfold World.var? at hv
  rw [hg] at hv
  simp only [Option.bind_some] at hv
  split at hv
  · rename_i c t fr h
    obtain rfl := Option.some.inj hv
    exact ⟨t, fr, h⟩
  · cases hv
theorem span_cells {W : World} {base : Nat} {sp : Nat → Bool} {held : Bool} {fuel : Nat} {cs : List Value} {a b c : Int} {p : List MemPlace}
    (h : DataW.trod (fun _ => ()) Tryd.prog W base sp held fuel 97 cs = some (.agg [.lit (.int .i64 a), .lit (.int .i64 b), .lit (.int .i64 c)], p)) : cs = [.int .i64 a, .int .i64 b, .int .i64 c] := by
  obtain ⟨xs, n, rfl, hx, hl, hxl, hf⟩ := DataW.trod_struct Tryd.underlying97 h
  rw [cSpan] at hl
  match cs, hl with
  | [c0, c1, c2], _ =>
    match xs, hxl with
    | [y0, y1, y2], _ =>
      have e := congrArg Prod.fst hx
      simp at e
      obtain ⟨e0, e1, e2⟩ := e
      have f0 := hf 0 _ rfl
      have f1 := hf 1 _ rfl
      have f2 := hf 2 _ rfl
      simp only [cInt, cCls, List.drop_zero, List.drop_succ_cons, List.take_succ_cons, List.take_zero, List.getElem?_cons_zero, List.getElem?_cons_succ] at f0 f1 f2
      obtain ⟨n0, g0, k0, _⟩ := DataW.trod_int Tryd.underlying3 f0
      obtain ⟨n1, g1, k1, _⟩ := DataW.trod_int Tryd.underlying3 f1
      obtain ⟨n2, g2, k2, _⟩ := DataW.trod_int Tryd.underlying92 f2
      subst k0 k1 k2
      simp [cInt, cCls] at e0 e1 e2 g0 g1 g2
      subst e0 e1 e2 g0 g1 g2
      rfl
theorem seven {l : List Value} (h : l.length = 21) : l = ((l.drop (0 * 3)).take 3) ++ ((l.drop (1 * 3)).take 3) ++ ((l.drop (2 * 3)).take 3) ++ ((l.drop (3 * 3)).take 3) ++ ((l.drop (4 * 3)).take 3) ++ ((l.drop (5 * 3)).take 3) ++ ((l.drop (6 * 3)).take 3) := by
  match l, h with
  | [a0, a1, a2, a3, a4, a5, a6, a7, a8, a9, a10, a11, a12, a13, a14, a15, a16, a17, a18, a19, a20], _ => rfl
theorem spans_cells {W : World} {base : Nat} {sp : Nat → Bool} {held : Bool} {fuel : Nat} {cs : List Value} {p : List MemPlace}
    (h : DataW.trod (fun _ => ()) Tryd.prog W base sp held fuel 98 cs = some (Rows.laid_galley_octet_spans, p)) : cs = Glob.spansC.toList := by
  obtain ⟨xs, m, rfl, hx, hl, hxl, hf⟩ := DataW.trod_array Tryd.underlying98 h
  rw [cSpans] at hl
  match xs, hxl with
  | [y0, y1, y2, y3, y4, y5, y6], _ =>
    have e := congrArg Prod.fst hx
    simp [Rows.laid_galley_octet_spans] at e
    obtain ⟨e0, e1, e2, e3, e4, e5, e6⟩ := e
    have f0 := hf 0 (by omega)
    have f1 := hf 1 (by omega)
    have f2 := hf 2 (by omega)
    have f3 := hf 3 (by omega)
    have f4 := hf 4 (by omega)
    have f5 := hf 5 (by omega)
    have f6 := hf 6 (by omega)
    simp only [cSpan, List.getElem?_cons_zero, List.getElem?_cons_succ] at f0 f1 f2 f3 f4 f5 f6
    have s0 := span_cells (f0.trans (congrArg some (Prod.ext e0.symm rfl : y0 = (_, y0.2))))
    have s1 := span_cells (f1.trans (congrArg some (Prod.ext e1.symm rfl : y1 = (_, y1.2))))
    have s2 := span_cells (f2.trans (congrArg some (Prod.ext e2.symm rfl : y2 = (_, y2.2))))
    have s3 := span_cells (f3.trans (congrArg some (Prod.ext e3.symm rfl : y3 = (_, y3.2))))
    have s4 := span_cells (f4.trans (congrArg some (Prod.ext e4.symm rfl : y4 = (_, y4.2))))
    have s5 := span_cells (f5.trans (congrArg some (Prod.ext e5.symm rfl : y5 = (_, y5.2))))
    have s6 := span_cells (f6.trans (congrArg some (Prod.ext e6.symm rfl : y6 = (_, y6.2))))
    rw [seven hl, s0, s1, s2, s3, s4, s5, s6]
    rfl
theorem arr_eq {a : Array Value} {l : List Value} (h : a.toList = l) : a = l.toArray := by rw [← h]
theorem bad_cells {W : World} {base : Nat} {sp : Nat → Bool} {held : Bool} {fuel : Nat} {cs : List Value} {p : List MemPlace}
    (h : DataW.trod (fun _ => ()) Tryd.prog W base sp held fuel 64 cs = some (Rows.laid_galley_step_bad, p)) : cs = Glob.badC.toList := by
  obtain ⟨xs, n, rfl, hx, hl, hxl, hf⟩ := DataW.trod_struct Tryd.underlying64 h
  rw [cStep] at hl
  match cs, hl with
  | [c0, c1, c2], _ =>
    match xs, hxl with
    | [y0, y1, y2], _ =>
      have e := congrArg Prod.fst hx
      simp [Rows.laid_galley_step_bad] at e
      obtain ⟨e0, e1, e2⟩ := e
      have f0 := hf 0 _ rfl
      have f1 := hf 1 _ rfl
      have f2 := hf 2 _ rfl
      simp only [cRune, cInt, cBool, List.drop_zero, List.drop_succ_cons, List.take_succ_cons, List.take_zero, List.getElem?_cons_zero, List.getElem?_cons_succ] at f0 f1 f2
      obtain ⟨n0, g0, k0, _⟩ := DataW.trod_int Tryd.underlying21 f0
      obtain ⟨n1, g1, k1, _⟩ := DataW.trod_int Tryd.underlying3 f1
      obtain ⟨n2, g2, k2⟩ := DataW.trod_bool Tryd.underlying4 f2
      subst k0 k1 k2
      simp [cRune, cInt, cBool] at e0 e1 e2 g0 g1 g2
      subst e0 e1 e2 g0 g1 g2
      rfl
theorem globs_of {W : World} {r : List (String × DataW Unit)} (h : laidMet Tryd.prog (("galley/octet.spans", Rows.laid_galley_octet_spans) :: ("galley/octet.needs", Rows.laid_galley_octet_needs) :: ("galley/octet.masks", Rows.laid_galley_octet_masks) :: ("galley/step.bad", Rows.laid_galley_step_bad) :: r) W) : Glob.Globs W := by
  obtain ⟨ps, ⟨g0, t0, c0, u0, p0, q0, hg0, ht0, hv0, hd0, ⟨g1, t1, c1, u1, p1, q1, hg1, ht1, hv1, hd1, ⟨g2, t2, c2, u2, p2, q2, hg2, ht2, hv2, hd2, ⟨g3, t3, c3, u3, p3, q3, hg3, ht3, hv3, hd3, _, _⟩, _⟩, _⟩, _⟩, _⟩ := h
  obtain rfl := Option.some.inj (gSpans.symm.trans hg0)
  obtain rfl := Option.some.inj (gNeeds.symm.trans hg1)
  obtain rfl := Option.some.inj (gMasks.symm.trans hg2)
  obtain rfl := Option.some.inj (gBad.symm.trans hg3)
  obtain rfl := Option.some.inj (tySpans.symm.trans ht0)
  obtain rfl := Option.some.inj (tyNeeds.symm.trans ht1)
  obtain rfl := Option.some.inj (tyMasks.symm.trans ht2)
  obtain rfl := Option.some.inj (tyBad.symm.trans ht3)
  have k0 := arr_eq (spans_cells hd0)
  have k1 := arr_eq (Lib.cells_of_tab (k := .i64) (zs := [0, 1, 0, 2, 3, 4, 0]) Tryd.underlying95 Tryd.underlying3 cInt cNeeds hd1)
  have k2 := arr_eq (Lib.cells_of_tab (k := .u8) (zs := [0, 127, 31, 15, 7]) Tryd.underlying89 Tryd.underlying5 cU8 cMasks hd2)
  have k3 := arr_eq (bad_cells hd3)
  subst k0 k1 k2 k3
  exact ⟨heap_of_var gSpans hv0, heap_of_var gNeeds hv1, heap_of_var gMasks hv2, heap_of_var gBad hv3⟩
end Go.Proofs.YteoonhidjldnfaaDoor.Laid

namespace Go.Proofs.YteoonhidjldnfaaDoor.Math
open Go.RowKit
set_option linter.unusedVariables false
set_option linter.unusedSimpArgs false
def Byt (l : List Int) : Prop := ∀ x ∈ l, 0 ≤ x ∧ x ≤ 255
theorem Byt.of_wf {l : List Int} (h : ∀ x ∈ l, (Lit.int .u8 x).wf = true) : Byt l := fun x hx => bounds_u8 (h x hx)
def cls (b : Int) : Int := if b < 128 then 1 else if b < 192 then 2 else if b < 194 then 6 else if b < 224 then 3 else if b < 240 then 4 else if b < 245 then 5 else 6
def need (b : Int) : Int := if b < 128 then 1 else if b < 194 then 0 else if b < 224 then 2 else if b < 240 then 3 else if b < 245 then 4 else 0
def sec (a b : Int) : Bool :=
  if a = 224 then decide (160 ≤ b ∧ b ≤ 191) else if a = 237 then decide (128 ≤ b ∧ b ≤ 159) else if a = 240 then decide (144 ≤ b ∧ b ≤ 191)
  else if a = 244 then decide (128 ≤ b ∧ b ≤ 143) else if need a > 1 then decide (128 ≤ b ∧ b ≤ 191) else false
def tl (b : Int) : Bool := decide (128 ≤ b ∧ b ≤ 191)
def whole : List Int → Bool
  | [x0] => decide (need x0 = 1)
  | [x0, x1] => decide (need x0 = 2) && sec x0 x1
  | [x0, x1, x2] => decide (need x0 = 3) && (sec x0 x1 && tl x2)
  | [x0, x1, x2, x3] => decide (need x0 = 4) && (sec x0 x1 && (tl x2 && tl x3))
  | _ => false
def num : List Int → Int
  | [x0] => x0
  | [x0, x1] => (x0 % 32) * 64 + x1 % 64
  | [x0, x1, x2] => ((x0 % 16) * 64 + x1 % 64) * 64 + x2 % 64
  | [x0, x1, x2, x3] => (((x0 % 8) * 64 + x1 % 64) * 64 + x2 % 64) * 64 + x3 % 64
  | _ => -1
def val (l : List Int) : Int := if whole l = true then num l else -1
def isR (r : Int) : Bool := decide (0 ≤ r ∧ r < 55296 ∨ 57343 < r ∧ r ≤ 1114111)
def enc0 (n : Int) : List Int :=
  if n < 128 then [n] else if n < 2048 then [192 + n / 64, 128 + n % 64] else if n < 65536 then [224 + n / 4096, 128 + n / 64 % 64, 128 + n % 64]
  else [240 + n / 262144, 128 + n / 4096 % 64, 128 + n / 64 % 64, 128 + n % 64]
def enc (r : Int) : List Int := if isR r = true then enc0 r else enc0 65533
theorem need_le (b : Int) : 0 ≤ need b ∧ need b ≤ 4 := by unfold need; (repeat' split) <;> omega
theorem cls_two (b : Int) (h : 0 ≤ b) (h' : b ≤ 255) : cls b = 2 ↔ 128 ≤ b ∧ b ≤ 191 := by unfold cls; (repeat' split) <;> omega
theorem sec_tail {a b : Int} (h : sec a b = true) : 128 ≤ b ∧ b ≤ 191 := by
  unfold sec at h; (repeat' split at h) <;> simp at h <;> omega
theorem wrap64_in' {n : Int} (h : -9223372036854775808 ≤ n) (h' : n ≤ 9223372036854775807) : wrap64 n = n := IntWalk.wrap64_in n ⟨h, h'⟩
theorem wrap32_in' {n : Int} (h : -2147483648 ≤ n) (h' : n ≤ 2147483647) : wrap32 n = n := by unfold wrap32; omega
theorem isR_iff (r : Int) : isR r = true ↔ (0 ≤ r ∧ r < 55296 ∨ 57343 < r ∧ r ≤ 1114111) := by unfold isR; simp
theorem str_toList (l : List Int) : (strOfNums l).toList = l.map fun n => UInt8.ofNat n.toNat := by
  rw [ByteArray.toList_eq, strOfNums_data]
theorem u8_inj {x y : Int} (hx : 0 ≤ x ∧ x ≤ 255) (hy : 0 ≤ y ∧ y ≤ 255) (h : UInt8.ofNat x.toNat = UInt8.ofNat y.toNat) : x = y := by
  have := congrArg UInt8.toNat h
  simp at this
  omega
theorem need_1 {x : Int} (h : x < 128) : need x = 1 := by unfold need; rw [if_pos h]
theorem need_2 {x : Int} (h : 194 ≤ x) (h' : x < 224) : need x = 2 := by unfold need; rw [if_neg (by omega), if_neg (by omega), if_pos h']
theorem need_3 {x : Int} (h : 224 ≤ x) (h' : x < 240) : need x = 3 := by unfold need; rw [if_neg (by omega), if_neg (by omega), if_neg (by omega), if_pos h']
theorem need_4 {x : Int} (h : 240 ≤ x) (h' : x < 245) : need x = 4 := by unfold need; rw [if_neg (by omega), if_neg (by omega), if_neg (by omega), if_neg (by omega), if_pos h']
theorem sec_iff (a b : Int) : sec a b = true ↔ (need a > 1 ∧ 128 ≤ b ∧ b ≤ 191 ∧ (a = 224 → 160 ≤ b) ∧ (a = 237 → b ≤ 159) ∧ (a = 240 → 144 ≤ b) ∧ (a = 244 → b ≤ 143)) := by
  unfold sec
  by_cases h1 : a = 224
  · subst h1; simp [need]; omega
  by_cases h2 : a = 237
  · subst h2; simp [need]; omega
  by_cases h3 : a = 240
  · subst h3; simp [need]; omega
  by_cases h4 : a = 244
  · subst h4; simp [need]; omega
  by_cases h5 : need a > 1 <;> simp [h1, h2, h3, h4, h5]
theorem tl_iff (b : Int) : tl b = true ↔ 128 ≤ b ∧ b ≤ 191 := by unfold tl; simp
def encN (c : Nat) : ByteArray :=
  let b (n : Nat) : UInt8 := UInt8.ofNat n
  if c < 0x80 then ⟨#[b c]⟩
  else if c < 0x800 then ⟨#[b (0xC0 + c / 64), b (0x80 + c % 64)]⟩
  else if c < 0x10000 then ⟨#[b (0xE0 + c / 4096), b (0x80 + c / 64 % 64), b (0x80 + c % 64)]⟩
  else ⟨#[b (0xF0 + c / 262144), b (0x80 + c / 4096 % 64), b (0x80 + c / 64 % 64), b (0x80 + c % 64)]⟩
theorem encode_N (r : Int) : Utf8.encode r = encN (if Utf8.valid r then r.toNat else Utf8.runeError) := rfl
theorem tn1 (c : Nat) : ((192 + (c : Int) / 64)).toNat = 0xC0 + c / 64 := by omega
theorem tn2 (c : Nat) : ((128 + (c : Int) % 64)).toNat = 0x80 + c % 64 := by omega
theorem tn3 (c : Nat) : ((224 + (c : Int) / 4096)).toNat = 0xE0 + c / 4096 := by omega
theorem tn4 (c : Nat) : ((128 + (c : Int) / 64 % 64)).toNat = 0x80 + c / 64 % 64 := by omega
theorem tn5 (c : Nat) : ((240 + (c : Int) / 262144)).toNat = 0xF0 + c / 262144 := by omega
theorem tn6 (c : Nat) : ((128 + (c : Int) / 4096 % 64)).toNat = 0x80 + c / 4096 % 64 := by omega
theorem encN_eq (c : Nat) : (encN c).data.toList = (enc0 (c : Int)).map fun n => UInt8.ofNat n.toNat := by
  unfold encN enc0
  by_cases h1 : c < 128
  · have g1 : (c : Int) < 128 := by omega
    rw [if_pos h1, if_pos g1]; simp
  · have g1 : ¬ (c : Int) < 128 := by omega
    rw [if_neg h1, if_neg g1]
    by_cases h2 : c < 2048
    · have g2 : (c : Int) < 2048 := by omega
      rw [if_pos h2, if_pos g2]
      simp only [List.map_cons, List.map_nil, tn1, tn2]
    · have g2 : ¬ (c : Int) < 2048 := by omega
      rw [if_neg h2, if_neg g2]
      by_cases h3 : c < 65536
      · have g3 : (c : Int) < 65536 := by omega
        rw [if_pos h3, if_pos g3]
        simp only [List.map_cons, List.map_nil, tn2, tn3, tn4]
      · have g3 : ¬ (c : Int) < 65536 := by omega
        rw [if_neg h3, if_neg g3]
        simp only [List.map_cons, List.map_nil, tn2, tn4, tn5, tn6]
theorem encode_eq (r : Int) : (Utf8.encode r).toList = (strOfNums (enc r)).toList := by
  rw [str_toList, ByteArray.toList_eq, encode_N, encN_eq]
  have hv : Utf8.valid r = isR r := by unfold Utf8.valid isR; rw [Bool.eq_iff_iff]; simp; omega
  rw [hv]
  unfold enc
  by_cases h : isR r = true
  · rw [if_pos h, if_pos h]
    rw [isR_iff] at h
    rw [Int.toNat_of_nonneg (by omega)]
  · rw [if_neg h, if_neg h]
    rfl
end Go.Proofs.YteoonhidjldnfaaDoor.Math

namespace Go.Proofs.YteoonhidjldnfaaDoor.Math
set_option linter.unusedVariables false
set_option linter.unusedSimpArgs false
def lgT (x y z w : Int) : Nat :=
  if 0 ≤ x ∧ x ≤ 127 then 1
  else if (194 ≤ x ∧ x ≤ 223) ∧ (128 ≤ y ∧ y ≤ 191) then 2
  else if (128 ≤ z ∧ z ≤ 191) ∧ (x = 224 ∧ (160 ≤ y ∧ y ≤ 191) ∨ (225 ≤ x ∧ x ≤ 236) ∧ (128 ≤ y ∧ y ≤ 191) ∨ x = 237 ∧ (128 ≤ y ∧ y ≤ 159) ∨ (238 ≤ x ∧ x ≤ 239) ∧ (128 ≤ y ∧ y ≤ 191)) then 3
  else if ((128 ≤ z ∧ z ≤ 191) ∧ (128 ≤ w ∧ w ≤ 191)) ∧ (x = 240 ∧ (144 ≤ y ∧ y ≤ 191) ∨ (241 ≤ x ∧ x ≤ 243) ∧ (128 ≤ y ∧ y ≤ 191) ∨ x = 244 ∧ (128 ≤ y ∧ y ≤ 143)) then 4
  else 0
def lg : List Int → Nat
  | [] => 0
  | x :: t => lgT x (t.getD 0 (-1)) (t.getD 1 (-1)) (t.getD 2 (-1))
theorem lgT_cases (x y z w : Int) : lgT x y z w = 0 ∨ (lgT x y z w = 1 ∧ 0 ≤ x ∧ x ≤ 127) ∨ (lgT x y z w = 2 ∧ 194 ≤ x ∧ x ≤ 223 ∧ 128 ≤ y ∧ y ≤ 191) ∨ (lgT x y z w = 3 ∧ 224 ≤ x ∧ x ≤ 239 ∧ 128 ≤ y ∧ y ≤ 191 ∧ 128 ≤ z ∧ z ≤ 191) ∨
    (lgT x y z w = 4 ∧ 240 ≤ x ∧ x ≤ 244 ∧ 128 ≤ y ∧ y ≤ 191 ∧ 128 ≤ z ∧ z ≤ 191 ∧ 128 ≤ w ∧ w ≤ 191) := by
  unfold lgT; (repeat' split) <;> omega
theorem lgT_w {x y z w : Int} (w' : Int) (h : lgT x y z w = 3) : lgT x y z w' = 3 := by
  unfold lgT at *; (repeat' split at h) <;> (repeat' split) <;> omega
theorem lg_le (l : List Int) : lg l ≤ 4 := by
  cases l with
  | nil => simp [lg]
  | cons x t => have := lgT_cases x (t.getD 0 (-1)) (t.getD 1 (-1)) (t.getD 2 (-1)); show lgT _ _ _ _ ≤ 4; omega
theorem lgT_tail {x : Int} (y z w : Int) (h : 128 ≤ x ∧ x ≤ 191) : lgT x y z w = 0 := by have := lgT_cases x y z w; omega
theorem lg_tail {x : Int} (t : List Int) (h : 128 ≤ x ∧ x ≤ 191) : lg (x :: t) = 0 := lgT_tail _ _ _ h
theorem getD_m1 (t : List Int) (k : Nat) (h : t.length ≤ k) : t.getD k (-1) = -1 := by simp [List.getD, List.getElem?_eq_none h]
theorem lg_len (l : List Int) : lg l ≤ l.length := by
  cases l with
  | nil => simp [lg]
  | cons x t =>
    have h := lgT_cases x (t.getD 0 (-1)) (t.getD 1 (-1)) (t.getD 2 (-1))
    have h0 := getD_m1 t 0
    have h1 := getD_m1 t 1
    have h2 := getD_m1 t 2
    show lgT _ _ _ _ ≤ t.length + 1
    omega
theorem lg_tails (l : List Int) (i : Nat) (h1 : 1 ≤ i) (h2 : i < lg l) : 128 ≤ l.getD i (-1) ∧ l.getD i (-1) ≤ 191 := by
  cases l with
  | nil => simp [lg] at h2
  | cons x t =>
    have h := lgT_cases x (t.getD 0 (-1)) (t.getD 1 (-1)) (t.getD 2 (-1))
    have h2' : i < lgT x (t.getD 0 (-1)) (t.getD 1 (-1)) (t.getD 2 (-1)) := h2
    have e : i = 1 ∨ i = 2 ∨ i = 3 := by omega
    rcases e with rfl | rfl | rfl
    · rw [List.getD_cons_succ]; omega
    · rw [List.getD_cons_succ]; omega
    · rw [List.getD_cons_succ]; omega
theorem getD_app (t m : List Int) (k : Nat) (h : k < t.length) : (t ++ m).getD k (-1) = t.getD k (-1) := by simp [List.getD, List.getElem?_append_left h]
theorem lg_append (l m : List Int) (h : 1 ≤ lg l) : lg (l ++ m) = lg l := by
  cases l with
  | nil => simp [lg] at h
  | cons x t =>
    have hl := lg_len (x :: t)
    have g0 := getD_app t m 0
    have g1 := getD_app t m 1
    have g2 := getD_app t m 2
    simp only [lg, List.cons_append, List.length_cons] at *
    generalize t.getD 0 (-1) = y at *
    generalize t.getD 1 (-1) = z at *
    generalize t.getD 2 (-1) = w at *
    generalize (t ++ m).getD 0 (-1) = y' at *
    generalize (t ++ m).getD 1 (-1) = z' at *
    generalize (t ++ m).getD 2 (-1) = w' at *
    have hc := lgT_cases x y z w
    rcases hc with h0 | ⟨e, hx⟩ | ⟨e, hx⟩ | ⟨e, hx⟩ | ⟨e, hx⟩
    · omega
    · rw [e]; unfold lgT; rw [if_pos (by omega)]
    · rw [e] at hl; rw [g0 (by omega), e]; unfold lgT; rw [if_neg (by omega), if_pos (by omega)]
    · rw [e] at hl; rw [g0 (by omega), g1 (by omega), e]; exact lgT_w _ e
    · rw [e] at hl; rw [g0 (by omega), g1 (by omega), g2 (by omega)]
theorem lg_of_append (l m : List Int) (h : 1 ≤ lg (l ++ m)) (h2 : lg (l ++ m) ≤ l.length) : lg l = lg (l ++ m) := by
  cases l with
  | nil => simp only [List.length_nil] at h2; omega
  | cons x t =>
    have g0 := getD_app t m 0
    have g1 := getD_app t m 1
    have g2 := getD_app t m 2
    simp only [lg, List.cons_append, List.length_cons] at *
    generalize t.getD 0 (-1) = y at *
    generalize t.getD 1 (-1) = z at *
    generalize t.getD 2 (-1) = w at *
    generalize (t ++ m).getD 0 (-1) = y' at *
    generalize (t ++ m).getD 1 (-1) = z' at *
    generalize (t ++ m).getD 2 (-1) = w' at *
    have hc := lgT_cases x y' z' w'
    rcases hc with h0 | ⟨e, hx⟩ | ⟨e, hx⟩ | ⟨e, hx⟩ | ⟨e, hx⟩
    · omega
    · rw [e]; unfold lgT; rw [if_pos (by omega)]
    · rw [e] at h2; rw [g0 (by omega)] at hx; rw [e]; unfold lgT; rw [if_neg (by omega), if_pos (by omega)]
    · rw [e] at h2; rw [e]; rw [g0 (by omega), g1 (by omega)] at e; exact lgT_w _ e
    · rw [e] at h2; rw [g0 (by omega), g1 (by omega), g2 (by omega)]
theorem lg_take (l : List Int) (n : Nat) (h : lg l ≤ n) (h1 : 1 ≤ lg l) : lg (l.take n) = lg l := by
  have e := List.take_append_drop n l
  have h1' : 1 ≤ lg (l.take n ++ l.drop n) := by rw [e]; exact h1
  have h2' : lg (l.take n ++ l.drop n) ≤ (l.take n).length := by rw [e, List.length_take]; have := lg_len l; omega
  exact (lg_of_append _ _ h1' h2').trans (by rw [e])
def rho (n : Nat) : Int := if n ≤ 1 then 1 else 2 - n
def rn : List Int → Int
  | [] => 0
  | x :: t => rho (lg (x :: t)) + rn t
def fr : List Int → Int
  | [] => 0
  | x :: t => (if lg (x :: t) = 4 then 1 else 0) + fr t
def en : Int → List Int → Int
  | _, [] => 0
  | p, x :: t => (if x = 13 ∨ (x = 10 ∧ p ≠ 13) then 1 else 0) + en x t
def wd (l : List Int) : Nat := if lg l = 0 then 1 else lg l
def ru (l : List Int) : Int := if lg l = 0 then 65533 else num (l.take (lg l))
theorem wd_pos (l : List Int) : 1 ≤ wd l := by unfold wd; split <;> omega
theorem wd_le (x : Int) (t : List Int) : wd (x :: t) ≤ (x :: t).length := by
  have := lg_len (x :: t)
  unfold wd; split
  · simp
  · exact this
theorem rn_tails (t : List Int) (n : Nat) (h : ∀ i, i < n → 128 ≤ t.getD i (-1) ∧ t.getD i (-1) ≤ 191) : rn t = n + rn (t.drop n) ∧ fr t = fr (t.drop n) ∧ ∀ p, en p t = en (if n = 0 then p else 0) (t.drop n) := by
  induction n generalizing t with
  | zero => exact ⟨by simp, by simp, fun p => by simp⟩
  | succ n ih =>
    cases t with
    | nil => have := h 0 (by omega); simp [List.getD] at this
    | cons x t =>
      have hx := h 0 (by omega)
      simp [List.getD] at hx
      obtain ⟨h1, h2, h3⟩ := ih t (fun i hi => by have := h (i + 1) (by omega); rwa [List.getD_cons_succ] at this)
      have e0 := lg_tail t hx
      refine ⟨?_, ?_, fun p => ?_⟩
      · simp only [rn, e0, rho, List.drop_succ_cons]; rw [h1]; simp; omega
      · simp only [fr, e0, List.drop_succ_cons]; rw [h2]; simp
      · simp only [en, List.drop_succ_cons, if_neg (Nat.succ_ne_zero n)]
        rw [if_neg (by omega), h3 x]
        split
        · rename_i h0; subst h0
          rw [List.drop_zero]
          cases t with
          | nil => rfl
          | cons y t =>
            simp only [en]
            have : x ≠ 13 := by omega
            simp [this]
        · simp
theorem rn_step (x : Int) (t : List Int) : rn (x :: t) = 1 + rn ((x :: t).drop (wd (x :: t))) := by
  have hw : wd (x :: t) = (wd (x :: t) - 1) + 1 := by have := wd_pos (x :: t); omega
  have ht := rn_tails t (wd (x :: t) - 1) (fun i hi => by
    have hl : wd (x :: t) = lg (x :: t) := by unfold wd at hi ⊢; split <;> simp_all
    have := lg_tails (x :: t) (i + 1) (by omega) (by omega)
    rwa [List.getD_cons_succ] at this)
  rw [hw, List.drop_succ_cons]
  simp only [rn]
  rw [ht.1]
  generalize rn (List.drop (wd (x :: t) - 1) t) = R
  have := lg_le (x :: t)
  unfold wd rho
  split <;> split <;> omega
theorem fr_step (x : Int) (t : List Int) : fr (x :: t) = (if lg (x :: t) = 4 then 1 else 0) + fr ((x :: t).drop (wd (x :: t))) := by
  have hw : wd (x :: t) = (wd (x :: t) - 1) + 1 := by have := wd_pos (x :: t); omega
  have ht := rn_tails t (wd (x :: t) - 1) (fun i hi => by
    have hl : wd (x :: t) = lg (x :: t) := by unfold wd at hi ⊢; split <;> simp_all
    have := lg_tails (x :: t) (i + 1) (by omega) (by omega)
    rwa [List.getD_cons_succ] at this)
  rw [hw, List.drop_succ_cons]
  simp only [fr]
  rw [ht.2.1]
theorem ru_facts (x : Int) (t : List Int) (hx : 0 ≤ x) : (ru (x :: t) = 13 ↔ x = 13) ∧ (ru (x :: t) = 10 ↔ x = 10) ∧ (ru (x :: t) > 65535 ↔ lg (x :: t) = 4) ∧ 0 ≤ ru (x :: t) ∧ ru (x :: t) ≤ 1114111 := by
  have hl := lg_len (x :: t)
  have hg : lg (x :: t) = lgT x (t.getD 0 (-1)) (t.getD 1 (-1)) (t.getD 2 (-1)) := rfl
  unfold ru
  rcases lgT_cases x (t.getD 0 (-1)) (t.getD 1 (-1)) (t.getD 2 (-1)) with e | ⟨e, h⟩ | ⟨e, h⟩ | ⟨e, h⟩ | ⟨e, h⟩
  · rw [hg, e, if_pos rfl]
    have : ¬ (0 ≤ x ∧ x ≤ 127) := fun h => by unfold lgT at e; rw [if_pos h] at e; omega
    omega
  · rw [hg, e, if_neg (by omega)]
    simp only [List.take_succ_cons, List.take_zero, num]
    exact ⟨trivial, trivial, ⟨fun h' => by omega, fun h' => by omega⟩, by omega, by omega⟩
  · rw [hg, e] at hl
    rw [hg, e, if_neg (by omega)]
    match t, hl, h, e with
    | y :: t', _, h, e =>
      simp only [List.take_succ_cons, List.take_zero, num, List.getD_cons_zero] at *
      omega
  · rw [hg, e] at hl
    rw [hg, e, if_neg (by omega)]
    match t, hl, h, e with
    | y :: z :: t', _, h, e =>
      simp only [List.take_succ_cons, List.take_zero, num, List.getD_cons_zero, List.getD_cons_succ] at *
      unfold lgT at e
      rw [if_neg (by omega), if_neg (by omega)] at e
      split at e
      · omega
      · split at e <;> omega
    | [_], hl, _, _ => simp at hl
    | [], hl, _, _ => simp at hl
  · rw [hg, e] at hl
    rw [hg, e, if_neg (by omega)]
    match t, hl, h, e with
    | y :: z :: w :: t', _, h, e =>
      simp only [List.take_succ_cons, List.take_zero, num, List.getD_cons_zero, List.getD_cons_succ] at *
      have hx : x % 8 = x - 240 := by omega
      have hy : y % 64 = y - 128 := by omega
      have hz : z % 64 = z - 128 := by omega
      have hw : w % 64 = w - 128 := by omega
      rw [hx, hy, hz, hw]
      unfold lgT at e
      rw [if_neg (by omega), if_neg (by omega), if_neg (by omega)] at e
      split at e
      · exact ⟨⟨fun h' => by omega, fun h' => by omega⟩, ⟨fun h' => by omega, fun h' => by omega⟩, ⟨fun h' => trivial, fun h' => by omega⟩, by omega, by omega⟩
      · omega
    | [_, _], hl, _, _ => simp at hl
    | [_], hl, _, _ => simp at hl
    | [], hl, _, _ => simp at hl
theorem en_step (p : Int) (x : Int) (t : List Int) (hx : 0 ≤ x) : en p (x :: t) = (if ru (x :: t) = 13 ∨ (ru (x :: t) = 10 ∧ p ≠ 13) then 1 else 0) + en (ru (x :: t)) ((x :: t).drop (wd (x :: t))) := by
  obtain ⟨r13, r10, _, _⟩ := ru_facts x t hx
  have hw : wd (x :: t) = (wd (x :: t) - 1) + 1 := by have := wd_pos (x :: t); omega
  have ht := (rn_tails t (wd (x :: t) - 1) (fun i hi => by
    have hl : wd (x :: t) = lg (x :: t) := by unfold wd at hi ⊢; split <;> simp_all
    have := lg_tails (x :: t) (i + 1) (by omega) (by omega)
    rwa [List.getD_cons_succ] at this)).2.2 x
  rw [hw, List.drop_succ_cons]
  simp only [en]
  rw [ht]
  have hif : (if x = 13 ∨ x = 10 ∧ p ≠ 13 then (1 : Int) else 0) = if ru (x :: t) = 13 ∨ ru (x :: t) = 10 ∧ p ≠ 13 then 1 else 0 := by
    simp only [r13, r10]
  rw [hif]
  congr 1
  -- what follows asks of the byte ahead only whether it is 13
  have key : ∀ (u v : Int) (l : List Int), (u = 13 ↔ v = 13) → en u l = en v l := by
    intro u v l h
    cases l with
    | nil => rfl
    | cons y l =>
      simp only [en]
      simp only [ne_eq, h]
  apply key
  split
  · exact r13.symm
  · rename_i hne
    -- the step has two bytes or more: neither is 13
    have h0 : lg (x :: t) ≠ 0 := fun h0 => hne (by unfold wd; rw [if_pos h0])
    have hl : wd (x :: t) = lg (x :: t) := by unfold wd; rw [if_neg h0]
    have := lgT_cases x (t.getD 0 (-1)) (t.getD 1 (-1)) (t.getD 2 (-1))
    have hg : lg (x :: t) = lgT x (t.getD 0 (-1)) (t.getD 1 (-1)) (t.getD 2 (-1)) := rfl
    rw [r13]
    omega
end Go.Proofs.YteoonhidjldnfaaDoor.Math

namespace Go.Proofs.YteoonhidjldnfaaDoor.Math
open Go.RowKit
set_option linter.unusedVariables false
set_option linter.unusedSimpArgs false
def dcT (X Y Z W : Nat) (n : Nat) : Nat × Nat :=
  if n = 0 then (65533, 1) else if n = 1 then (X, 1) else if n = 2 then (X % 32 * 64 + Y % 64, 2) else if n = 3 then (X % 16 * 4096 + Y % 64 * 64 + Z % 64, 3) else (X % 8 * 262144 + Y % 64 * 4096 + Z % 64 * 64 + W % 64, 4)
set_option maxHeartbeats 4000000 in
theorem dec_core (n X Y Z W : Nat) (y z w : Int) (hX : X < 256) (hY : Y < 256) (hZ : Z < 256) (hW : W < 256) (h1 : 1 < n → y = Y) (h1' : n ≤ 1 → y = -1) (h2 : 2 < n → z = Z) (h2' : n ≤ 2 → z = -1) (h3 : 3 < n → w = W) (h3' : n ≤ 3 → w = -1) :
    Lib.decodeN n X Y Z W = dcT X Y Z W (lgT X y z w) := by
  unfold lgT
  split
  · show _ = (X, 1)
    unfold Lib.decodeN
    rw [if_pos (by omega)]
  split
  · show _ = (X % 32 * 64 + Y % 64, 2)
    unfold Lib.decodeN
    rw [if_neg (by omega), if_pos (by omega), if_pos (by omega)]
  split
  · show _ = (X % 16 * 4096 + Y % 64 * 64 + Z % 64, 3)
    have g1 : 1 < n := by omega
    have g2 : 2 < n := by omega
    have e1 := h1 g1
    have e2 := h2 g2
    unfold Lib.decodeN
    rw [if_neg (by omega), if_neg (by omega), if_pos (by omega), if_pos (by omega)]
  split
  · show _ = (X % 8 * 262144 + Y % 64 * 4096 + Z % 64 * 64 + W % 64, 4)
    have g1 : 1 < n := by omega
    have g2 : 2 < n := by omega
    have g3 : 3 < n := by omega
    have e1 := h1 g1
    have e2 := h2 g2
    have e3 := h3 g3
    have m1 : Y % 64 = Y - 128 := by omega
    have m2 : Z % 64 = Z - 128 := by omega
    have m3 : W % 64 = W - 128 := by omega
    have m0 : X % 8 = X - 240 := by omega
    unfold Lib.decodeN
    rw [if_neg (by omega), if_neg (by omega), if_neg (by omega), if_pos (by omega), m0, m1, m2, m3, if_pos (by omega)]
  · show _ = (65533, 1)
    rename_i c1 c2 c3 c4
    unfold Lib.decodeN
    rw [if_neg (by omega)]
    split
    · rename_i d
      have g1 : 1 < n := d.2.1
      have e1 := h1 g1
      rw [if_neg (by omega)]
    split
    · rename_i _ d
      have g1 : 1 < n := d.2.1.1
      have g2 : 2 < n := d.2.2.1
      have e1 := h1 g1
      have e2 := h2 g2
      rw [if_neg (by omega)]
    split
    · rename_i _ _ d
      have g1 : 1 < n := d.2.1.1
      have g2 : 2 < n := d.2.2.1.1
      have g3 : 3 < n := d.2.2.2.1
      have e1 := h1 g1
      have e2 := h2 g2
      have e3 := h3 g3
      have m1 : Y % 64 = Y - 128 := by omega
      have m2 : Z % 64 = Z - 128 := by omega
      have m3 : W % 64 = W - 128 := by omega
      have m0 : X % 8 = X - 240 := by omega
      rw [m0, m1, m2, m3, if_neg (by omega)]
    · rfl
theorem Byt.drop {l : List Int} (h : Byt l) (n : Nat) : Byt (l.drop n) := fun x hx => h x (List.mem_of_mem_drop hx)
theorem Byt.take {l : List Int} (h : Byt l) (n : Nat) : Byt (l.take n) := fun x hx => h x (List.mem_of_mem_take hx)
theorem Byt.append {l m : List Int} (h : Byt l) (h' : Byt m) : Byt (l ++ m) := fun x hx => (List.mem_append.1 hx).elim (h x) (h' x)
theorem Byt.getD {l : List Int} (h : Byt l) (k : Nat) (hk : k < l.length) (d : Int) : 0 ≤ l.getD k d ∧ l.getD k d ≤ 255 := by
  have e : l.getD k d = l[k] := by simp [List.getD, List.getElem?_eq_getElem hk]
  rw [e]; exact h _ (List.getElem_mem hk)
theorem str_getD (l : List Int) (hb : Byt l) (k : Nat) : (((strOfNums l).data.toList.getD k 0).toNat : Int) = l.getD k 0 := by
  rw [strOfNums_data]
  by_cases hk : k < l.length
  · have := hb.getD k hk 0
    have e : l.getD k 0 = l[k] := by simp [List.getD, List.getElem?_eq_getElem hk]
    simp only [List.getD_eq_getElem?_getD, List.getElem?_map, List.getElem?_eq_getElem hk, Option.map_some, Option.getD_some] at *
    rw [UInt8.toNat_ofNat']
    omega
  · simp [List.getD, List.getElem?_eq_none (Nat.le_of_not_lt hk)]
theorem getD_swap {l : List Int} {k : Nat} (hk : k < l.length) (c d : Int) : l.getD k c = l.getD k d := by simp [List.getD, List.getElem?_eq_getElem hk]
theorem getD_drop' (l : List Int) (p k : Nat) (d : Int) : (l.drop p).getD k d = l.getD (p + k) d := by simp [List.getD, List.getElem?_drop]
theorem decode_eq (l : List Int) (hb : Byt l) (p : Nat) (hp : p < l.length) : ((Utf8.decode (strOfNums l) p).1 : Int) = ru (l.drop p) ∧ (Utf8.decode (strOfNums l) p).2 = wd (l.drop p) := by
  rw [Lib.decode_N]
  have hlen : (strOfNums l).data.toList.length = l.length := by rw [strOfNums_data, List.length_map]
  rw [hlen]
  obtain ⟨x, t, hxt⟩ : ∃ x t, l.drop p = x :: t := by
    cases h : l.drop p with
    | nil => have := congrArg List.length h; simp at this; omega
    | cons x t => exact ⟨x, t, rfl⟩
  have hbt : Byt (x :: t) := hxt ▸ hb.drop p
  have htl : t.length + 1 = l.length - p := by have := congrArg List.length hxt; simp at this; omega
  have gk : ∀ k, l.getD (p + k) 0 = (x :: t).getD k 0 := fun k => by rw [← hxt, getD_drop']
  have s0 := str_getD l hb p
  have s1 := str_getD l hb (p + 1)
  have s2 := str_getD l hb (p + 2)
  have s3 := str_getD l hb (p + 3)
  have g0 := gk 0
  rw [Nat.add_zero] at g0
  rw [g0] at s0
  rw [gk 1] at s1
  rw [gk 2] at s2
  rw [gk 3] at s3
  simp only [List.getD_cons_zero, List.getD_cons_succ] at s0 s1 s2 s3
  have b0 := UInt8.toNat_lt ((strOfNums l).data.toList.getD p 0)
  have b1 := UInt8.toNat_lt ((strOfNums l).data.toList.getD (p + 1) 0)
  have b2 := UInt8.toNat_lt ((strOfNums l).data.toList.getD (p + 2) 0)
  have b3 := UInt8.toNat_lt ((strOfNums l).data.toList.getD (p + 3) 0)
  generalize ((strOfNums l).data.toList.getD p 0).toNat = X at *
  generalize ((strOfNums l).data.toList.getD (p + 1) 0).toNat = Y at *
  generalize ((strOfNums l).data.toList.getD (p + 2) 0).toNat = Z at *
  generalize ((strOfNums l).data.toList.getD (p + 3) 0).toNat = W at *
  rw [dec_core (l.length - p) X Y Z W (t.getD 0 (-1)) (t.getD 1 (-1)) (t.getD 2 (-1)) b0 b1 b2 b3
    (fun h => by rw [s1]; exact getD_swap (by omega) _ _) (fun h => getD_m1 t 0 (by omega))
    (fun h => by rw [s2]; exact getD_swap (by omega) _ _) (fun h => getD_m1 t 1 (by omega))
    (fun h => by rw [s3]; exact getD_swap (by omega) _ _) (fun h => getD_m1 t 2 (by omega)), hxt]
  have hg : lg (x :: t) = lgT X (t.getD 0 (-1)) (t.getD 1 (-1)) (t.getD 2 (-1)) := by rw [s0]; rfl
  have hll := lg_len (x :: t)
  rw [← hg]
  have h4 := lg_le (x :: t)
  unfold ru wd dcT
  have hc : lg (x :: t) = 0 ∨ lg (x :: t) = 1 ∨ lg (x :: t) = 2 ∨ lg (x :: t) = 3 ∨ lg (x :: t) = 4 := by omega
  rcases hc with e | e | e | e | e
  · simp [e]
  · simp only [e, List.take_succ_cons, List.take_zero, num]; simp [s0]
  · match t, hll, s1 with
    | y :: t', _, s1 =>
      simp only [List.getD_cons_zero] at s1
      simp only [e, List.take_succ_cons, List.take_zero, num]; simp; omega
    | [], hll, _ => rw [e] at hll; simp at hll
  · match t, hll, s1, s2 with
    | y :: z :: t', _, s1, s2 =>
      simp only [List.getD_cons_zero, List.getD_cons_succ] at s1 s2
      simp only [e, List.take_succ_cons, List.take_zero, num]; simp; omega
    | [_], hll, _, _ => rw [e] at hll; simp at hll
    | [], hll, _, _ => rw [e] at hll; simp at hll
  · match t, hll, s1, s2, s3 with
    | y :: z :: w :: t', _, s1, s2, s3 =>
      simp only [List.getD_cons_zero, List.getD_cons_succ] at s1 s2 s3
      simp only [e, List.take_succ_cons, List.take_zero, num]; simp; omega
    | [_, _], hll, _, _, _ => rw [e] at hll; simp at hll
    | [_], hll, _, _, _ => rw [e] at hll; simp at hll
    | [], hll, _, _, _ => rw [e] at hll; simp at hll
def insB (l : List Int) (p : Nat) : Bool := decide (1 ≤ p ∧ 1 < lg (l.drop (p - 1))) || (decide (2 ≤ p ∧ 2 < lg (l.drop (p - 2))) || decide (3 ≤ p ∧ 3 < lg (l.drop (p - 3))))
theorem insB_true (l : List Int) (p : Nat) : insB l p = true ↔ ∃ k, 1 ≤ k ∧ k ≤ 3 ∧ k ≤ p ∧ k < lg (l.drop (p - k)) := by
  unfold insB
  simp only [Bool.or_eq_true, decide_eq_true_eq]
  constructor
  · rintro (h | h | h)
    · exact ⟨1, by omega, by omega, h.1, h.2⟩
    · exact ⟨2, by omega, by omega, h.1, h.2⟩
    · exact ⟨3, by omega, by omega, h.1, h.2⟩
  · rintro ⟨k, h1, h3, hp, hl⟩
    have : k = 1 ∨ k = 2 ∨ k = 3 := by omega
    rcases this with rfl | rfl | rfl
    · exact .inl ⟨hp, hl⟩
    · exact .inr (.inl ⟨hp, hl⟩)
    · exact .inr (.inr ⟨hp, hl⟩)
theorem insB_false (l : List Int) (p : Nat) : insB l p = false ↔ ∀ k, 1 ≤ k → k ≤ 3 → k ≤ p → lg (l.drop (p - k)) ≤ k := by
  rw [← Bool.not_eq_true, insB_true]
  constructor
  · intro h k h1 h2 h3
    apply Nat.le_of_not_lt
    intro h4
    exact h ⟨k, h1, h2, h3, h4⟩
  · rintro h ⟨k, h1, h2, h3, h4⟩
    have := h k h1 h2 h3
    omega
theorem insB_zero (l : List Int) : insB l 0 = false := (insB_false l 0).2 (fun k h1 _ h3 => by omega)
theorem lg_drop_tail (l : List Int) (p j : Nat) (h1 : 1 ≤ j) (h2 : j < lg (l.drop p)) : lg (l.drop (p + j)) = 0 := by
  have := lg_tails _ j h1 h2
  rw [getD_drop'] at this
  have hlt : p + j < l.length := by have := lg_len (l.drop p); simp at this; omega
  obtain ⟨x, t, hxt⟩ : ∃ x t, l.drop (p + j) = x :: t := by
    cases h : l.drop (p + j) with
    | nil => have := congrArg List.length h; simp at this; omega
    | cons x t => exact ⟨x, t, rfl⟩
  have e : x = l.getD (p + j) (-1) := by
    have := getD_drop' l (p + j) 0 (-1)
    rw [hxt] at this
    simpa using this
  rw [hxt]
  exact lg_tail t (by omega)
theorem ins_step (l : List Int) (p : Nat) (he : insB l p = false) : (∀ i, 1 ≤ i → i < wd (l.drop p) → insB l (p + i) = true) ∧ insB l (p + wd (l.drop p)) = false := by
  have hle := lg_le (l.drop p)
  constructor
  · intro i h1 h2
    have hl : i < lg (l.drop p) := by unfold wd at h2; split at h2 <;> omega
    exact (insB_true l _).2 ⟨i, h1, by omega, by omega, by rwa [Nat.add_sub_cancel]⟩
  · rw [insB_false] at he ⊢
    intro k h1 h3 hk
    by_cases hq : k < wd (l.drop p)
    · have hl : wd (l.drop p) = lg (l.drop p) := by
        by_cases h0 : lg (l.drop p) = 0
        · unfold wd at hq; rw [if_pos h0] at hq; omega
        · unfold wd; rw [if_neg h0]
      have := lg_drop_tail l p (wd (l.drop p) - k) (by omega) (by omega)
      rw [show p + wd (l.drop p) - k = p + (wd (l.drop p) - k) by omega, this]
      omega
    · have hw := wd_pos (l.drop p)
      by_cases hq2 : k = wd (l.drop p)
      · rw [show p + wd (l.drop p) - k = p by omega]
        unfold wd at hq2; split at hq2 <;> omega
      · have := he (k - wd (l.drop p)) (by omega) (by omega) (by omega)
        rw [show p + wd (l.drop p) - k = p - (k - wd (l.drop p)) by omega]
        omega
theorem ins_end (l : List Int) : insB l l.length = false := by
  rw [insB_false]
  intro k _ _ hk
  have := lg_len (l.drop (l.length - k))
  simp at this
  omega
def edF (l : List Int) (p n : Nat) : List Nat := (List.range' p n).filter (fun q => !insB l q)
theorem edF_step (l : List Int) (p : Nat) (hp : p < l.length) (he : insB l p = false) : edF l p (l.length - p) = p :: edF l (p + wd (l.drop p)) (l.length - (p + wd (l.drop p))) := by
  obtain ⟨h1, h2⟩ := ins_step l p he
  have hw := wd_pos (l.drop p)
  have hwl : p + wd (l.drop p) ≤ l.length := by
    have := lg_len (l.drop p); simp at this
    unfold wd; split <;> omega
  unfold edF
  have e : l.length - p = 1 + ((wd (l.drop p) - 1) + (l.length - (p + wd (l.drop p)))) := by omega
  rw [e, Nat.add_comm 1, List.range'_succ, List.filter_cons, he]
  simp only [Bool.not_false, if_true]
  rw [← List.range'_append_1, List.filter_append]
  have e0 : List.filter (fun q => !insB l q) (List.range' (p + 1) (wd (l.drop p) - 1)) = [] := by
    rw [List.filter_eq_nil_iff]
    intro a ha
    rw [List.mem_range'_1] at ha
    have := h1 (a - p) (by omega) (by omega)
    rw [show p + (a - p) = a by omega] at this
    simp [this]
  rw [e0, List.nil_append, show p + 1 + (wd (l.drop p) - 1) = p + wd (l.drop p) by omega]
end Go.Proofs.YteoonhidjldnfaaDoor.Math

namespace Go.Proofs.YteoonhidjldnfaaDoor.Math
set_option linter.unusedVariables false
set_option linter.unusedSimpArgs false
theorem rn_bounds' (l : List Int) : 0 ≤ fr l ∧ 0 ≤ rn l ∧ rn l ≤ l.length ∧ fr l ≤ rn l ∧ rn l + 3 * fr l ≤ l.length := by
  generalize hn : l.length = n
  induction n using Nat.strongRecOn generalizing l with
  | ind n ih =>
    cases l with
    | nil => simp [rn, fr]
    | cons x t =>
      have hw := wd_pos (x :: t)
      have hwl := wd_le x t
      have hd : ((x :: t).drop (wd (x :: t))).length = n - wd (x :: t) := by rw [List.length_drop, hn]
      have h := ih (n - wd (x :: t)) (by simp at hn; omega) _ hd
      rw [rn_step, fr_step]
      have hw4 : lg (x :: t) = 4 → wd (x :: t) = 4 := fun h => by unfold wd; rw [h]; rfl
      split <;> omega
theorem en_bounds' (l : List Int) : ∀ p, 0 ≤ en p l ∧ en p l ≤ l.length := by
  induction l with
  | nil => intro p; simp [en]
  | cons x t ih =>
    intro p
    have := ih x
    simp only [en, List.length_cons]
    split <;> omega
def seamR : List Int → List Int → Int × Int
  | [], _ => (0, 0)
  | x :: t, b => if t.length + 1 < lg (x :: t ++ b) then (((lg (x :: t ++ b) : Nat) : Int) - 1, ((lg (x :: t ++ b) : Nat) : Int) - (if lg (x :: t ++ b) = 4 then 2 else 1)) else seamR t b
theorem seamR_tails (t b : List Int) (h : ∀ i, i < t.length → 128 ≤ t.getD i (-1) ∧ t.getD i (-1) ≤ 191) : seamR t b = (0, 0) := by
  induction t with
  | nil => rfl
  | cons x t ih =>
    have h0 := h 0 (by simp)
    simp at h0
    rw [seamR, List.cons_append, lg_tail _ h0, if_neg (by omega)]
    exact ih (fun i hi => by have := h (i + 1) (by simp; omega); rwa [List.getD_cons_succ] at this)
theorem rf_append (a b : List Int) : rn (a ++ b) = rn a + rn b - (seamR a b).1 ∧ rn (a ++ b) + fr (a ++ b) = (rn a + fr a) + (rn b + fr b) - (seamR a b).2 := by
  induction a with
  | nil => simp [rn, fr, seamR]
  | cons x t ih =>
    obtain ⟨h1, h2⟩ := ih
    have hll := lg_len (x :: t)
    have e1 : rn (x :: t ++ b) = rho (lg (x :: t ++ b)) + rn (t ++ b) := rfl
    have e2 : fr (x :: t ++ b) = (if lg (x :: t ++ b) = 4 then 1 else 0) + fr (t ++ b) := rfl
    have e3 : rn (x :: t) = rho (lg (x :: t)) + rn t := rfl
    have e4 : fr (x :: t) = (if lg (x :: t) = 4 then 1 else 0) + fr t := rfl
    rw [seamR, e1, e2, e3, e4]
    generalize hL' : lg (x :: t ++ b) = L
    have h4 := lg_le (x :: t ++ b)
    rw [hL'] at h4
    by_cases hs : t.length + 1 < L
    · rw [if_pos hs]
      have hz : seamR t b = (0, 0) := seamR_tails t b (fun i hi => by
        have := lg_tails (x :: t ++ b) (i + 1) (by omega) (by omega)
        rwa [List.cons_append, List.getD_cons_succ, getD_app t b i hi] at this)
      have h0 : lg (x :: t) = 0 := by
        rcases Nat.eq_zero_or_pos (lg (x :: t)) with h | h
        · exact h
        · have := lg_append (x :: t) b h
          simp at hll; omega
      rw [hz] at h1 h2
      simp only at h1 h2 ⊢
      rw [h0]
      unfold rho
      rw [if_neg (by omega), if_pos (by omega)]
      refine ⟨by omega, ?_⟩
      split <;> simp <;> omega
    · rw [if_neg hs]
      have he : L = lg (x :: t) := by
        rcases Nat.eq_zero_or_pos L with h | h
        · rcases Nat.eq_zero_or_pos (lg (x :: t)) with h' | h'
          · rw [h, h']
          · have := lg_append (x :: t) b h'; omega
        · exact ((lg_of_append (x :: t) b (by omega) (by simp; simp at hL'; omega)).trans hL').symm
      subst he
      refine ⟨by omega, by omega⟩
theorem seamR_last (a b : List Int) : seamR a b = seamR (a.drop (a.length - 3)) b := by
  induction a with
  | nil => rfl
  | cons x t ih =>
    by_cases h : t.length + 1 ≤ 3
    · rw [List.length_cons, show t.length + 1 - 3 = 0 by omega, List.drop_zero]
    · have h4 := lg_le (x :: t ++ b)
      rw [seamR, if_neg (by omega), List.length_cons, show t.length + 1 - 3 = (t.length - 3) + 1 by omega, List.drop_succ_cons]
      exact ih
theorem getD_take' (b : List Int) (n k : Nat) (h : k < n) : (b.take n).getD k (-1) = b.getD k (-1) := by
  simp [List.getD, List.getElem?_take, h]
theorem getD_app2 (s b : List Int) (k : Nat) (h : s.length ≤ k) : (s ++ b).getD k (-1) = b.getD (k - s.length) (-1) := by
  simp [List.getD, List.getElem?_append_right h]
theorem lg_head (x : Int) (t b : List Int) (n : Nat) (hn : 3 ≤ n) : lg (x :: t ++ b.take n) = lg (x :: t ++ b) := by
  have hk : ∀ k, k ≤ 2 → (t ++ b.take n).getD k (-1) = (t ++ b).getD k (-1) := by
    intro k hk
    by_cases h : k < t.length
    · rw [getD_app _ _ _ h, getD_app _ _ _ h]
    · rw [getD_app2 _ _ _ (by omega), getD_app2 _ _ _ (by omega), getD_take' _ _ _ (by omega)]
  simp only [lg, List.cons_append]
  rw [hk 0 (by omega), hk 1 (by omega), hk 2 (by omega)]
theorem seamR_take (a b : List Int) : seamR a b = seamR a (b.take 3) := by
  induction a with
  | nil => rfl
  | cons x t ih => rw [seamR, seamR, lg_head x t b 3 (by omega), ih]
def seamE (a b : List Int) : Int := if a.getD (a.length - 1) (-1) = 13 ∧ b.getD 0 (-1) = 10 then 1 else 0
theorem en_key (u v : Int) (l : List Int) (h : u = 13 ↔ v = 13) : en u l = en v l := by
  cases l with
  | nil => rfl
  | cons y l => simp only [en, ne_eq, h]
theorem en_append (a b : List Int) (p : Int) : en p (a ++ b) = en p a + en (if a = [] then p else a.getD (a.length - 1) (-1)) b := by
  induction a generalizing p with
  | nil => simp [en]
  | cons x t ih =>
    simp only [List.cons_append, en]
    rw [ih x]
    have e1 : (if x :: t = [] then p else (x :: t).getD ((x :: t).length - 1) (-1)) = (if t = [] then x else t.getD (t.length - 1) (-1)) := by
      rw [if_neg (List.cons_ne_nil _ _)]
      cases t with
      | nil => simp
      | cons y t => rw [if_neg (List.cons_ne_nil _ _)]; simp
    rw [e1]
    omega
theorem en_seam (a b : List Int) : en 0 (a ++ b) = en 0 a + en 0 b - seamE a b := by
  rw [en_append]
  unfold seamE
  by_cases ha : a = []
  · subst ha; simp
  · rw [if_neg ha]
    generalize a.getD (a.length - 1) (-1) = q
    by_cases hq : q = 13
    · subst hq
      cases b with
      | nil => simp [en]
      | cons y b =>
        simp only [en, List.getD_cons_zero, true_and]
        by_cases h10 : y = 10
        · subst h10; simp; omega
        · by_cases h13 : y = 13
          · subst h13; simp
          · simp [h10, h13]
    · rw [en_key q 0 b (by omega), if_neg (fun h => hq h.1)]
      omega
theorem seamE_last (a b : List Int) : seamE a b = seamE (a.drop (a.length - 3)) (b.take 3) := by
  unfold seamE
  rw [getD_take' _ _ _ (by omega), getD_drop', List.length_drop]
  congr 3
  by_cases h : 1 ≤ a.length
  · congr 1; omega
  · have : a.length = 0 := by omega
    rw [List.length_eq_zero_iff.1 this]; rfl
theorem seamR_range (a b : List Int) : 0 ≤ (seamR a b).1 ∧ (seamR a b).1 ≤ 3 ∧ 0 ≤ (seamR a b).2 ∧ (seamR a b).2 ≤ 2 := by
  induction a with
  | nil => simp [seamR]
  | cons x t ih =>
    have h4 := lg_le (x :: t ++ b)
    rw [seamR]
    generalize lg (x :: t ++ b) = L at *
    split
    · refine ⟨?_, ?_, ?_, ?_⟩ <;> dsimp only <;> (try split) <;> omega
    · exact ih
theorem seamE_range (a b : List Int) : 0 ≤ seamE a b ∧ seamE a b ≤ 1 := by unfold seamE; split <;> omega
theorem len_le (l : List Int) (hb : Byt l) : (l.length : Int) ≤ 3 * rn l + fr l ∧ ∀ p, en p l ≤ rn l := by
  generalize hn : l.length = n
  induction n using Nat.strongRecOn generalizing l with
  | ind n ih =>
    cases l with
    | nil => simp [rn, fr, en] at *; omega
    | cons x t =>
      have hw := wd_pos (x :: t)
      have hwl := wd_le x t
      have h4 := lg_le (x :: t)
      have hx := (hb x (by simp)).1
      have hd : ((x :: t).drop (wd (x :: t))).length = n - wd (x :: t) := by rw [List.length_drop, hn]
      have h := ih (n - wd (x :: t)) (by simp at hn; omega) _ (hb.drop _) hd
      rw [rn_step, fr_step]
      refine ⟨?_, fun p => ?_⟩
      · have hh := h.1
        have hw4 : (wd (x :: t) : Int) ≤ 3 + (if lg (x :: t) = 4 then 1 else 0) := by unfold wd; split <;> split <;> omega
        omega
      · rw [en_step p x t hx]
        have hh := h.2 (ru (x :: t))
        split <;> omega
def vldB (n r u e : Int) (H T : List Int) : Bool :=
  if n < 0 ∨ n > 268435456 ∨ (H.length : Int) ≠ min 3 n ∨ (T.length : Int) ≠ min 3 n then false
  else if n ≤ 6 then decide (H.drop (n.toNat - T.length) = T.take (H.length + T.length - n.toNat)) && decide (r = rn (H ++ T.drop (H.length + T.length - n.toNat)) ∧ u = rn (H ++ T.drop (H.length + T.length - n.toNat)) + fr (H ++ T.drop (H.length + T.length - n.toNat)) ∧ e = en 0 (H ++ T.drop (H.length + T.length - n.toNat)))
  else decide (0 ≤ r ∧ r ≤ n ∧ r ≤ u ∧ u ≤ 2 * r ∧ r - (u - r) ≤ n - 4 * (u - r) ∧ n - 4 * (u - r) ≤ 3 * (r - (u - r)) ∧ 0 ≤ e ∧ e ≤ r)
theorem vld_of (l : List Int) (hb : Byt l) (hl : l.length ≤ 268435456) : vldB l.length (rn l) (rn l + fr l) (en 0 l) (l.take 3) (l.drop (l.length - 3)) = true := by
  unfold vldB
  rw [if_neg (by simp; omega)]
  split
  · rename_i h6
    have e1 : (l.length : Int).toNat = l.length := by simp
    rw [e1]
    have hT : (l.drop (l.length - 3)).length = min 3 l.length := by rw [List.length_drop]; omega
    have hH : (l.take 3).length = min 3 l.length := by rw [List.length_take]
    rw [hT, hH]
    by_cases h3 : l.length ≤ 3
    · have q1 : l.take 3 = l := List.take_of_length_le h3
      have q2 : l.length - 3 = 0 := by omega
      have q3 : l.length - min 3 l.length = 0 := by omega
      have q4 : min 3 l.length + min 3 l.length - l.length = l.length := by omega
      rw [q2, q3, q4, q1, List.drop_zero, List.drop_length, List.append_nil, List.take_length]
      simp
    · have q3 : l.length - min 3 l.length = l.length - 3 := by omega
      have q4 : min 3 l.length + min 3 l.length - l.length = 3 - (l.length - 3) := by omega
      have q5 : (l.take 3).drop (l.length - 3) = (l.drop (l.length - 3)).take (3 - (l.length - 3)) := by rw [List.drop_take]
      have q6 : l.take 3 ++ (l.drop (l.length - 3)).drop (3 - (l.length - 3)) = l := by
        rw [List.drop_drop, show l.length - 3 + (3 - (l.length - 3)) = 3 by omega, List.take_append_drop]
      rw [q3, q4, q5, q6]
      simp
  · have h1 := rn_bounds' l
    have h2 := len_le l hb
    have h3 := h2.2 0
    have h4 := en_bounds' l 0
    rw [decide_eq_true_eq]
    omega
end Go.Proofs.YteoonhidjldnfaaDoor.Math

namespace Go.Proofs.YteoonhidjldnfaaDoorW.PrintWords
open Go.RowKit
theorem below_bytes {w0 w : World} (e : TypeId) (s : ByteArray) (base : Nat) (HB : Below base w0 w) (hb : base ≤ w.heap.size) : Below base w0 (Lib.bytesWorld w e s) := by
  refine ⟨HB.os, HB.tape, HB.output, ?_, fun k hk => ?_⟩
  · rw [Lib.bytesWorld_size]; exact Nat.le_trans HB.size (Nat.le_succ _)
  · rw [Lib.bytesWorld_at_old _ _ _ _ (Nat.lt_of_lt_of_le hk hb)]; exact HB.block k hk
theorem C_bytes (w : World) (e : TypeId) (s : ByteArray) (hm : s.size ≤ 9223372036854775807) : Kd.C (Kd.int .u8) (Lib.bytesWorld w e s) (some ⟨w.heap.size, 0, none⟩) (bytesOf s).length (bytesOf s) := by
  have h := bytes_reads w e s hm
  rw [← bytesOf_length s] at h
  exact Kd.C_of_reads (d := (0 : Int)) (h1 := fun _ => rfl) h
theorem bytesCells_len (w : World) (e : TypeId) (s : ByteArray) : s.size ≤ grownCap w s.size 0 e := grownCap_ge _ _ _ _
theorem F_bytes (w : World) (e : TypeId) (s : ByteArray) (ok : Nat → Prop) (hok : ok w.heap.size) (hm : s.size ≤ 9223372036854775807) :
    Kd.F (Kd.int .u8) (Lib.bytesWorld w e s) ok (some ⟨w.heap.size, 0, none⟩) (bytesOf s).length (bytesOf s) := by
  intro W' hW
  have hb : W'.heap[w.heap.size]? = (Lib.bytesWorld w e s).heap[w.heap.size]? := hW _ hok (by rw [Lib.bytesWorld_size]; exact Nat.lt_succ_self _)
  obtain ⟨h1, h2, h3⟩ := bytes_reads w e s hm
  refine Kd.C_of_reads (d := (0 : Int)) (h1 := fun _ => rfl) ⟨rfl, by rw [bytesOf_length]; exact hm, fun hp => ?_⟩
  obtain ⟨ad, had, hc⟩ := h3 (by rw [← h1]; exact hp)
  obtain rfl : (⟨w.heap.size, 0, none⟩ : Addr) = ad := by injection had
  refine ⟨_, rfl, fun j hj => ?_⟩
  rw [World.cell?_of_block (w := Lib.bytesWorld w e s) (w' := W') (a := (⟨w.heap.size, 0, none⟩ : Addr).add j) (by rw [add_plain]; exact hb)]
  exact hc j (by rw [← h1]; exact hj)
namespace Kd
section
variable {P : Program} {ops : Array Oper} {rest : List Oper} {o : Oper} {a : Act} {Q : Exit → Act → World → Prop} {Kc : Act → World → Prop}
theorem grown_bytes (W : World) (e : TypeId) (s : ByteArray) : W.grownBy (Lib.bytesWorld W e s) none :=
  ⟨rfl, rfl, rfl, by rw [Lib.bytesWorld_size]; exact Nat.le_succ _, fun k hk _ => Lib.bytesWorld_at_old _ _ _ _ hk⟩
theorem V_bytes_step {w0 W : World} (base e : Nat) (hw : Region.wanted o (yielded ops a.tmps) = true) {N : Tmp} (_hd : o.dst = some N) {src dst : TypeId} {x : Operand} {s : ByteArray} {ok : Nat → Prop}
    (ho : o.op = .convert src dst x) (hx : a.eval x = .string s) (hs : P.underlying src = some .string) (hd : P.underlying dst = some (.slice e)) (he : P.underlying e = some (.int .u8))
    (hfresh : ok W.heap.size) (HB : Below base w0 W) (hbase : base ≤ W.heap.size) (hm : s.size ≤ 9223372036854775807)
    (h : ∀ v1 w1, Kd.V (Kd.int .u8) e w1 base ok v1 (bytesOf s) → Below base w0 w1 → W.grownBy w1 none → (∃ b, v1.ownBlock = some b ∧ W.heap.size ≤ b) → Kc (a.put o.dst v1) w1) : if Region.wanted o (yielded ops a.tmps) = true then Oper.wp P o a W Kc Q else Kc (a.put o.dst undef) W := by
  refine event_step (w1 := Lib.bytesWorld W e s) (v := .slice (some ⟨W.heap.size, 0, none⟩) s.size (grownCap W s.size 0 e)) hw ?_ (h _ _ ?_ (below_bytes e s base HB hbase) (grown_bytes W e s) ⟨W.heap.size, by simp [Value.ownBlock], Nat.le_refl _⟩)
  · have := Lib.run_convert_string_bytes W src dst e s hs hd he
    simp [execOp, ho, hx, this]
  · rw [← bytesOf_length s]
    exact V_mk (by rw [bytesOf_length]; exact bytesCells_len W e s) (F_bytes W e s ok hfresh hm)
end
end Kd
end Go.Proofs.YteoonhidjldnfaaDoorW.PrintWords

namespace Go.Proofs.YteoonhidjldnfaaDoor.Pr
open Go.RowKit Go.Proofs.YteoonhidjldnfaaDoorW.PrintWords Go.Proofs.YteoonhidjldnfaaDoorW.PrintLast Go.Proofs.YteoonhidjldnfaaDoorW.PrintMore
attribute [local go_sem] max2_int min2_int max_two min_two max_three min_three max_four min_four   -- for this text's walks alone
set_option linter.unusedVariables false
set_option linter.unusedSimpArgs false
def errW : Option Int → Value
 | none => .nilIface
 | some c => .iface 0 (.int .i64 c)
theorem errW_none : errW none = .nilIface := rfl
theorem errW_some (c : Int) : errW (some c) = .iface 0 (.int .i64 c) := rfl
theorem info3 : (Tryd.prog.info? 3).map (fun i => (i.zero, i.size, i.bytes)) = some (some (.int .i64 0), 1, 8) := by kernel_rfl
theorem info5 : (Tryd.prog.info? 5).map (fun i => (i.zero, i.size, i.bytes)) = some (some (.int .u8 0), 1, 1) := by kernel_rfl
theorem info64 : (Tryd.prog.info? 64).map (fun i => (i.zero, i.size, i.bytes)) = some (some (.agg #[(.int .i32 0), (.int .i64 0), (.bool false)]), 3, 24) := by kernel_rfl
-- the values' own types
structure S34 where
 f0 : Int
 f1 : Int
 f2 : Int
 f3 : Int
def z34 : S34 := ⟨(0 : Int), (0 : Int), (0 : Int), (0 : Int)⟩
def k34 : Kd S34 := Kd.iso (Kd.pair (Kd.int .i64) (Kd.pair (Kd.int .i64) (Kd.pair (Kd.int .i64) (Kd.int .i64)))) (fun x : S34 => (x.f0, x.f1, x.f2, x.f3))
theorem k34_open {w : World} {x : S34} {cs : List Value} (h : k34.K w x cs) : cs = [.int .i64 x.f0, .int .i64 x.f1, .int .i64 x.f2, .int .i64 x.f3] := by
 obtain ⟨_, _, rfl, rfl, ⟨_, _, rfl, rfl, ⟨_, _, rfl, rfl, rfl⟩⟩⟩ := h
 exact rfl
theorem k34_mkM (w : World) (base : Nat) (ok : Nat → Prop) (x : S34)  : k34.M w base ok x [.int .i64 x.f0, .int .i64 x.f1, .int .i64 x.f2, .int .i64 x.f3] := ⟨[.int .i64 x.f0], [.int .i64 x.f1, .int .i64 x.f2, .int .i64 x.f3], rfl, rfl, ⟨[.int .i64 x.f1], [.int .i64 x.f2, .int .i64 x.f3], rfl, rfl, ⟨[.int .i64 x.f2], [.int .i64 x.f3], rfl, rfl, rfl⟩⟩⟩
structure S64 where
 f0 : Int
 f1 : Int
 f2 : Bool
def z64 : S64 := ⟨(0 : Int), (0 : Int), false⟩
def k64 : Kd S64 := Kd.iso (Kd.pair (Kd.int .i32) (Kd.pair (Kd.int .i64) Kd.bool)) (fun x : S64 => (x.f0, x.f1, x.f2))
theorem k64_open {w : World} {x : S64} {cs : List Value} (h : k64.K w x cs) : cs = [.int .i32 x.f0, .int .i64 x.f1, .bool x.f2] := by
 obtain ⟨_, _, rfl, rfl, ⟨_, _, rfl, rfl, rfl⟩⟩ := h
 exact rfl
theorem k64_mkM (w : World) (base : Nat) (ok : Nat → Prop) (x : S64)  : k64.M w base ok x [.int .i32 x.f0, .int .i64 x.f1, .bool x.f2] := ⟨[.int .i32 x.f0], [.int .i64 x.f1, .bool x.f2], rfl, rfl, ⟨[.int .i64 x.f1], [.bool x.f2], rfl, rfl, rfl⟩⟩
def rd_T64 (xs : List S64) (i : Int) : S64 := xs.getD i.toNat z64
theorem at_T64 {w : World} {A : Option Addr} {n : Nat} {xs : List S64} (h : Kd.C k64 w A n xs) (i : Int) (h0 : 0 ≤ i) (h1 : i < n) : ∃ ad , A = some ad ∧ w.cell? (ad.add (i.toNat * 3)) = some (.int .i32 (rd_T64 xs i).f0) ∧ w.cell? ⟨(ad.add (i.toNat * 3)).block, (ad.add (i.toNat * 3)).off + 1, none⟩ = some (.int .i64 (rd_T64 xs i).f1) ∧ w.cell? ⟨(ad.add (i.toNat * 3)).block, (ad.add (i.toNat * 3)).off + 2, none⟩ = some (.bool (rd_T64 xs i).f2) := by
 obtain ⟨ad, c, e, _, hK, hc0⟩ := Kd.C_get h z64 i h0 h1
 have hc : ∀ j u, c[j]? = some u → w.cell? (ad.add (i.toNat * 3 + j)) = some u := hc0
 obtain rfl := k64_open hK
 exact ⟨ad, e, hc 0 _ rfl, by rw [← add_field _ _ 1 (by omega)]; exact hc 1 _ rfl, by rw [← add_field _ _ 2 (by omega)]; exact hc 2 _ rfl⟩
structure S36 where
 f0 : S34
 f1 : ByteArray
 f2 : ByteArray
def z36 : S36 := ⟨z34, (⟨#[]⟩ : ByteArray), (⟨#[]⟩ : ByteArray)⟩
def k36 : Kd S36 := Kd.iso (Kd.pair k34 (Kd.pair Kd.string Kd.string)) (fun x : S36 => (x.f0, x.f1, x.f2))
theorem k36_open {w : World} {x : S36} {cs : List Value} (h : k36.K w x cs) : cs = [.int .i64 x.f0.f0, .int .i64 x.f0.f1, .int .i64 x.f0.f2, .int .i64 x.f0.f3, .string x.f1, .string x.f2] := by
 obtain ⟨_, _, rfl, s0, ⟨_, _, rfl, rfl, rfl⟩⟩ := h
 obtain rfl := k34_open s0
 exact rfl
theorem k36_mkM (w : World) (base : Nat) (ok : Nat → Prop) (x : S36)  : k36.M w base ok x [.int .i64 x.f0.f0, .int .i64 x.f0.f1, .int .i64 x.f0.f2, .int .i64 x.f0.f3, .string x.f1, .string x.f2] := ⟨[.int .i64 x.f0.f0, .int .i64 x.f0.f1, .int .i64 x.f0.f2, .int .i64 x.f0.f3], [.string x.f1, .string x.f2], rfl, (k34_mkM w base ok x.f0 ), ⟨[.string x.f1], [.string x.f2], rfl, rfl, rfl⟩⟩
def rd_T36 (xs : List S36) (i : Int) : S36 := xs.getD i.toNat z36
theorem at_T36 {w : World} {A : Option Addr} {n : Nat} {xs : List S36} (h : Kd.C k36 w A n xs) (i : Int) (h0 : 0 ≤ i) (h1 : i < n) : ∃ ad , A = some ad ∧ w.cell? (ad.add (i.toNat * 6)) = some (.int .i64 (rd_T36 xs i).f0.f0) ∧ w.cell? ⟨(ad.add (i.toNat * 6)).block, (ad.add (i.toNat * 6)).off + 1, none⟩ = some (.int .i64 (rd_T36 xs i).f0.f1) ∧ w.cell? ⟨(ad.add (i.toNat * 6)).block, (ad.add (i.toNat * 6)).off + 2, none⟩ = some (.int .i64 (rd_T36 xs i).f0.f2) ∧ w.cell? ⟨(ad.add (i.toNat * 6)).block, (ad.add (i.toNat * 6)).off + 3, none⟩ = some (.int .i64 (rd_T36 xs i).f0.f3) ∧ w.cell? ⟨(ad.add (i.toNat * 6)).block, (ad.add (i.toNat * 6)).off + 4, none⟩ = some (.string (rd_T36 xs i).f1) ∧ w.cell? ⟨(ad.add (i.toNat * 6)).block, (ad.add (i.toNat * 6)).off + 5, none⟩ = some (.string (rd_T36 xs i).f2) := by
 obtain ⟨ad, c, e, _, hK, hc0⟩ := Kd.C_get h z36 i h0 h1
 have hc : ∀ j u, c[j]? = some u → w.cell? (ad.add (i.toNat * 6 + j)) = some u := hc0
 obtain rfl := k36_open hK
 exact ⟨ad, e, hc 0 _ rfl, by rw [← add_field _ _ 1 (by omega)]; exact hc 1 _ rfl, by rw [← add_field _ _ 2 (by omega)]; exact hc 2 _ rfl, by rw [← add_field _ _ 3 (by omega)]; exact hc 3 _ rfl, by rw [← add_field _ _ 4 (by omega)]; exact hc 4 _ rfl, by rw [← add_field _ _ 5 (by omega)]; exact hc 5 _ rfl⟩
end Go.Proofs.YteoonhidjldnfaaDoor.Pr

namespace Go.Proofs.YteoonhidjldnfaaDoor.Pr
open Go.RowKit Go.Proofs.YteoonhidjldnfaaDoorW.PrintWords Go.Proofs.YteoonhidjldnfaaDoorW.PrintLast Go.Proofs.YteoonhidjldnfaaDoorW.PrintMore
set_option linter.unusedVariables false
set_option linter.unusedSimpArgs false
set_option maxHeartbeats 1000000 in
theorem hasPrefix_calls (s p : ByteArray) (w : World) :
    Calls Tryd.prog 56 #[.string s, .string p] w fun e w' => e = .returned (.bool (Lib.hasPrefix s.data.toList p.data.toList)) ∧ w' = w := by
  rw [← Lib.hasPrefix_of_take, ← Lib.size_eq, ← Lib.size_eq]
  go_enter Tryd.func56, Tryd.ntmps56
  go_wp2
  · rename_i h
    go_ret
    refine ⟨?_, rfl⟩
    show Ending.returned (Value.bool ((s.extract 0 p.size).toList == p.toList)) = _
    rw [Lib.extract_toList, Lib.toList_data]
    simp [h]
  · rename_i h
    go_ret
    refine ⟨?_, rfl⟩
    show Ending.returned (Value.bool false) = _
    simp [h]
def stepF (s : ByteArray) : Int × Int × Bool :=
  if (Utf8.decode s 0).1 = 65533 ∧ Lib.hasPrefix s.data.toList [239, 191, 189] = false then (65533, 1, false) else (((Utf8.decode s 0).1 : Nat), (strOfRune ((Utf8.decode s 0).1 : Nat)).size, true)
def stepA (x : Int × Int × Bool) : Value := .agg #[.int .i32 x.1, .int .i64 x.2.1, .bool x.2.2]
set_option maxHeartbeats 8000000 in
set_option maxRecDepth 100000 in
theorem step_first.raw (s : ByteArray) (hs : 0 < s.size) (w : World) (hb : ∃ t fr, w.heap[0]? = some (.cells Glob.badC t fr)) :
    Calls Tryd.prog 52 #[.string s] w fun e w' => e = .returned (stepA (stepF s)) ∧ Below w.heap.size w w' := by
  obtain ⟨bt, bfr, hbad⟩ := hb
  have HB := Lib.hid hbad
  clear hbad
  have hrune := fun (n : Int) (w : World) => run_convert_rune (P := Tryd.prog) w 21 9 n Tryd.underlying21 Tryd.underlying9
  go_enter Tryd.func52, Tryd.ntmps52
  go_wp2
  go_loopw [4] (fun _ wr => wr.heap[w.heap.size + 1]? = some (.stringIter s 0) ∧ wr.heap[w.heap.size]? = some (.cells #[.int .i32 0, .int .i64 0, .bool false] 64 (0, 0)) ∧ Below w.heap.size w wr) (fun _ _ => 0)
  case atStart =>
    refine ⟨?_, ?_, (((Below.refl _ w).alloc (Nat.le_refl _) _).alloc (by simp) _)⟩
    · have := World.iter_heap (w.alloc (.cells #[.int .i32 0, .int .i64 0, .bool false] 64)) s 0
      simpa using this
    · exact (Below.heap_alloc _ _ _ (by simp)).trans (heap_alloc_new _ _)
  case round =>
    obtain ⟨hit, hres, hbw⟩ := hrel
    have hnx : ∀ ty, (Instr.next (.pointer (some ⟨w.heap.size + 1, 0, none⟩)) true ty).run Tryd.prog wr = _ := fun ty => Lib.run_next_any_at wr (w.heap.size + 1) s 0 ty hit hs
    have hbw2 := Lib.below_iterAt hbw (k := w.heap.size + 1) (by omega) s (0 + (Utf8.decode s 0).2)
    have hres2 := (Lib.iterAt_other wr (w.heap.size + 1) w.heap.size s (0 + (Utf8.decode s 0).2) (by omega)).trans hres
    obtain ⟨W2, hW2⟩ : ∃ W2, wr.iterAt (w.heap.size + 1) s (0 + (Utf8.decode s 0).2) = W2 := ⟨_, rfl⟩
    rw [hW2] at hbw2 hres2
    have hnx2 := fun ty => (hnx ty).trans (congrArg (Result.ok _) hW2)
    clear hnx hW2 hres hbw hit
    have HBad := (hbw2.block _ (Glob.lt_of_heap HB.out)).trans HB.out
    have hc0 : W2.cell? ⟨w.heap.size, 0, none⟩ = some (.int .i32 0) := by rw [cell_of_row _ _ _ _ _ _ hres2]; rfl
    have hc1 : W2.cell? ⟨w.heap.size, 1, none⟩ = some (.int .i64 0) := by rw [cell_of_row _ _ _ _ _ _ hres2]; rfl
    have hc2 : W2.cell? ⟨w.heap.size, 2, none⟩ = some (.bool false) := by rw [cell_of_row _ _ _ _ _ _ hres2]; rfl
    have hf : ∀ j, W2.frozen? ⟨w.heap.size, j, none⟩ = false := by intro j; simp [World.frozen?, hres2]
    have hg0 : W2.cell? ⟨0, 0, none⟩ = some (.int .i32 65533) := by rw [cell_of_row _ _ _ _ _ _ HBad]; rfl
    have hg1 : W2.cell? ⟨0, 1, none⟩ = some (.int .i64 1) := by rw [cell_of_row _ _ _ _ _ _ HBad]; rfl
    have hg2 : W2.cell? ⟨0, 2, none⟩ = some (.bool false) := by rw [cell_of_row _ _ _ _ _ _ HBad]; rfl
    by_cases hd : ((Utf8.decode s 0).1 : Int) = 65533
    · by_cases hp : Lib.hasPrefix s.data.toList [239, 191, 189] = true
      · go_wp2_with (go_at_call 56; refine (hasPrefix_calls _ _ _).mono ?_; rintro e w' ⟨rfl, rfl⟩)
        refine bodyPost_ret (results_cell_row rfl _ _ w.heap.size 64 #[.int .i32 65533, .int .i64 (strOfRune 65533).size, .bool true] (0, 0) _ rfl (by refine blk_put (cs := #[.int .i32 65533, .int .i64 (strOfRune 65533).size, .bool false]) ?_ 2 _ rfl; refine blk_put (cs := #[.int .i32 65533, .int .i64 0, .bool false]) ?_ 1 _ rfl; refine blk_put (cs := #[.int .i32 0, .int .i64 0, .bool false]) ?_ 0 _ rfl; exact hres2) Tryd.underlying64 rfl (by kernel_rfl)) rfl ?_
        exact ⟨by unfold stepF stepA; rw [if_neg (by rw [hp]; simp), hd], ((hbw2.setCell (p := ⟨w.heap.size, 0, none⟩) (Nat.le_refl _) _).setCell (p := ⟨w.heap.size, 1, none⟩) (Nat.le_refl _) _).setCell (p := ⟨w.heap.size, 2, none⟩) (Nat.le_refl _) _⟩
      · go_wp2_with (go_at_call 56; refine (hasPrefix_calls _ _ _).mono ?_; rintro e w' ⟨rfl, rfl⟩)
        refine bodyPost_ret (results_cell_row rfl _ _ w.heap.size 64 #[.int .i32 65533, .int .i64 1, .bool false] (0, 0) _ rfl (by refine blk_put (cs := #[.int .i32 65533, .int .i64 1, .bool false]) ?_ 2 _ rfl; refine blk_put (cs := #[.int .i32 65533, .int .i64 0, .bool false]) ?_ 1 _ rfl; refine blk_put (cs := #[.int .i32 0, .int .i64 0, .bool false]) ?_ 0 _ rfl; exact hres2) Tryd.underlying64 rfl (by kernel_rfl)) rfl ?_
        exact ⟨by unfold stepF; rw [if_pos ⟨by omega, by simpa using hp⟩]; rfl, ((hbw2.setCell (p := ⟨w.heap.size, 0, none⟩) (Nat.le_refl _) _).setCell (p := ⟨w.heap.size, 1, none⟩) (Nat.le_refl _) _).setCell (p := ⟨w.heap.size, 2, none⟩) (Nat.le_refl _) _⟩
    · go_wp2_with fail
      refine bodyPost_ret (results_cell_row rfl _ _ w.heap.size 64 #[.int .i32 ((Utf8.decode s 0).1 : Nat), .int .i64 (strOfRune ((Utf8.decode s 0).1 : Nat)).size, .bool true] (0, 0) _ rfl (by refine blk_put (cs := #[.int .i32 ((Utf8.decode s 0).1 : Nat), .int .i64 (strOfRune ((Utf8.decode s 0).1 : Nat)).size, .bool false]) ?_ 2 _ rfl; refine blk_put (cs := #[.int .i32 ((Utf8.decode s 0).1 : Nat), .int .i64 0, .bool false]) ?_ 1 _ rfl; refine blk_put (cs := #[.int .i32 0, .int .i64 0, .bool false]) ?_ 0 _ rfl; exact hres2) Tryd.underlying64 rfl (by kernel_rfl)) rfl ?_
      exact ⟨by unfold stepF; rw [if_neg (fun h => hd (by omega))]; rfl, ((hbw2.setCell (p := ⟨w.heap.size, 0, none⟩) (Nat.le_refl _) _).setCell (p := ⟨w.heap.size, 1, none⟩) (Nat.le_refl _) _).setCell (p := ⟨w.heap.size, 2, none⟩) (Nat.le_refl _) _⟩
end Go.Proofs.YteoonhidjldnfaaDoor.Pr

namespace Go.Proofs.YteoonhidjldnfaaDoor.Pr
open Go.RowKit Go.Proofs.YteoonhidjldnfaaDoorW.PrintWords Go.Proofs.YteoonhidjldnfaaDoorW.PrintLast Go.Proofs.YteoonhidjldnfaaDoorW.PrintMore
def step_first.f (a0 : ByteArray) : Option (Int × Int × Bool) := if 0 < a0.size then some (stepF a0) else none
theorem step_first.calls (a0 : ByteArray) (r1 : Int) (r2 : Int) (r3 : Bool) (w : World) (hG : Glob.Globs w) (h : step_first.f a0 = some (r1, r2, r3)) :
    Calls Tryd.prog 52 #[.string a0] w fun e w' => e = .returned (.agg #[.int .i32 r1, .int .i64 r2, .bool r3]) ∧ Below w.heap.size w w' := by
  unfold step_first.f at h
  split at h
  · rename_i hs
    have e := Option.some.inj h
    refine (step_first.raw a0 hs w hG.bad).mono ?_
    rintro e' w' ⟨rfl, hb⟩
    exact ⟨by rw [e]; rfl, hb⟩
  · cases h
end Go.Proofs.YteoonhidjldnfaaDoor.Pr

namespace Go.Proofs.YteoonhidjldnfaaDoor.Pr
open Go.RowKit Go.Proofs.YteoonhidjldnfaaDoorW.PrintWords Go.Proofs.YteoonhidjldnfaaDoorW.PrintLast Go.Proofs.YteoonhidjldnfaaDoorW.PrintMore
attribute [local go_sem] max2_int min2_int max_two min_two max_three min_three max_four min_four   -- for this text's walks alone
set_option linter.unusedVariables false
set_option linter.unusedSimpArgs false
def step_at.f (l0 : List Int) (a1 : Int) : Option (Int × Int × Bool) := if 0 ≤ a1 then (if a1 ≤ (mn (wrap64 (a1 + 4)) (l0.length : Int)) then (if (mn (wrap64 (a1 + 4)) (l0.length : Int)) ≤ (l0.length : Int) then ((step_first.f (strOfNums ((l0.take ((mn (wrap64 (a1 + 4)) (l0.length : Int)) : Int).toNat).drop (a1 : Int).toNat))).bind fun bt121 => (some (bt121.1, bt121.2.1, bt121.2.2))) else (none)) else (none)) else (none)
set_option maxHeartbeats 8000000 in
set_option maxRecDepth 100000 in
theorem step_at.calls (A0 : Option Addr) (c0 : Nat) (l0 : List Int) (a1 : Int) (r1 : Int) (r2 : Int) (r3 : Bool) (w : World) (hG : Glob.Globs w) (hr0 : Kd.C (Kd.int .u8) w A0 l0.length l0) (hc0 : l0.length ≤ c0) (h : step_at.f l0 a1 = some (r1, r2, r3)) :
  Calls Tryd.prog 48 #[.slice A0 l0.length c0, .int .i64 a1] w fun e w' => e = .returned (.agg #[.int .i32 r1, .int .i64 r2, .bool r3]) ∧ Below w.heap.size w w' := by
 have hu64 := Tryd.underlying64
 have HG := Aside0.mk hG; clear hG; have HR0 := Aside0.mk hr0; have HC0 := Aside0.mk hc0; clear hr0 hc0
 have HB := Aside0.mk (Below.refl w.heap.size w)
 have H : (if 0 ≤ a1 then (if a1 ≤ (mn (wrap64 (a1 + 4)) (l0.length : Int)) then (if (mn (wrap64 (a1 + 4)) (l0.length : Int)) ≤ (l0.length : Int) then ((step_first.f (strOfNums ((l0.take ((mn (wrap64 (a1 + 4)) (l0.length : Int)) : Int).toNat).drop (a1 : Int).toNat))).bind fun bt121 => (some (bt121.1, bt121.2.1, bt121.2.2))) else (none)) else (none)) else (none)) = some (r1, r2, r3) := h
 clear h
 obtain ⟨ji3, hji3⟩ : ∃ j_ : Int, (mn (wrap64 (a1 + 4)) (l0.length : Int)) = j_ := ⟨_, rfl⟩
 replace H : (if 0 ≤ a1 then (if a1 ≤ (ji3) then (if (ji3) ≤ (l0.length : Int) then ((step_first.f (strOfNums ((l0.take ((ji3) : Int).toNat).drop (a1 : Int).toNat))).bind fun bt121 => (some (bt121.1, bt121.2.1, bt121.2.2))) else (none)) else (none)) else (none)) = some (r1, r2, r3) := by first | (rw [hji3] at H; exact H) | (simp only [hji3] at H ⊢; exact H)
 have hji3_ : (if (l0.length : Int) < (wrap64 (a1 + 4)) then (l0.length : Int) else (wrap64 (a1 + 4))) = ji3 := hji3
 by_cases c4 : 0 ≤ a1
 ·rw [if_pos c4] at H
  have c4b0 := eq_true c4
  have c4b1 : decide (0 ≤ a1) = true := decide_eq_true c4
  clear c4
  by_cases c5 : a1 ≤ (ji3)
  ·rw [if_pos c5] at H
   have c5b0 := eq_true c5
   have c5b1 : decide (a1 ≤ (ji3)) = true := decide_eq_true c5
   clear c5
   by_cases c6 : (ji3) ≤ (l0.length : Int)
   ·rw [if_pos c6] at H
    have c6b0 := eq_true c6
    have c6b1 : decide ((ji3) ≤ (l0.length : Int)) = true := decide_eq_true c6
    clear c6
    replace H := Option.bind_eq_some_iff.mp H
    obtain ⟨⟨t121, t122, t123⟩, A70, H⟩ := H
    have A7 := Aside0.mk A70; clear A70
    simp only [Option.some.injEq, Prod.mk.injEq] at H
    obtain ⟨rfl, rfl, rfl⟩ := H
    go_enter Tryd.func48, Tryd.ntmps48
    go_wp2_with (first | ((with_reducible refine gate_dst (N := 4) rfl ?_); refine box_event ?hg (N := 4) ?hd (cs := #[.int .i32 0, .int .i64 0, .bool false]) (t := 64) ?hr ?_; (case hd => rfl); (case hg => rfl); (case hr => first | (go_simp; done) | (go_simp; rfl)); intro gb119 hg w8 hbox hb; have n0_ := Aside0.mk (below_step (bl HB.out) hb); have n1_ := Aside0.mk (hbox); have n2_ := Aside0.mk ((by rw [hg]; exact (below_size (bl HB.out)) : w.heap.size ≤ gb119)); have n3_ := Aside0.mk ((by rw [hg]; exact (below_size (bl HB.out)) : w.heap.size ≤ gb119)); clear HB; have HB := n0_; have BK119 := n1_; have GW119 := n2_; have GE119 := n3_; clear n0_ n1_ n2_ n3_; clear hb hbox hg; obtain ⟨i09, hi09, _, hsz9, _⟩ := info_parts info5; obtain ⟨A9, hcut9, hA9, hC9⟩ := print_mid_of (P := Tryd.prog) (Value.int .u8) 0 26 5 .i64 .i64 Tryd.underlying26 hi09 hsz9 A0 c0 l0 a1 (ji3) (of_decide_eq_true (by first | (with_reducible assumption) | assumption)) (by first | omega | exact of_decide_eq_true (by first | (with_reducible assumption) | assumption)) (of_decide_eq_true (by first | (with_reducible assumption) | assumption)) HC0.out; have HR120 := Aside0.mk (Kd.C_of_reads (h1 := fun _ => rfl) (hA9 _ (Kd.reads_of_C HR0.out))); have HC120 := Aside0.mk hC9; clear hA9 hC9 hi09 hsz9; have hcv10 := Kd.C_string (P := Tryd.prog) (A := A9) (c := (c0 - a1.toNat)) Tryd.underlying26 Tryd.underlying5 Tryd.underlying9 (Kd.C_below HR120.out HB.out); have e_ : (List.drop a1.toNat (List.take ji3.toNat l0)).length = ji3.toNat - a1.toNat := (by have z_ : ji3 ≤ (l0.length : Int) := of_decide_eq_true (by assumption); rw [List.length_drop, List.length_take, Nat.min_eq_left (by omega)]); rw [e_] at hcv10; clear e_) | ((with_reducible refine gate_callee (f := 52) rfl ?_); refine goesL_ (some 14) rfl rfl Tryd.func52 (by kernel_rfl) rfl #[.string (strOfNums ((l0.take ((ji3) : Int).toNat).drop (a1 : Int).toNat))] rfl (by (try simp only [List.map_toArray, List.map_cons, List.map_nil]); first | done | (simp only [hji3]; rfl) | rfl | (simp only [List.length_drop, List.length_take]; rfl)) ?_; (with_reducible refine (step_first.calls (strOfNums ((l0.take ((ji3) : Int).toNat).drop (a1 : Int).toNat)) t121 t122 t123 _ ?side1 A7.out).mono ?_); (case side1 => first | (with_reducible exact HG.out) | exact Glob.Globs_below HG.out (by repeat (first | (with_reducible first | exact HB.out | apply below_alloc | apply pw_below_drewN | apply below_drew1 | refine below_set ?_ GE119.out) | exact HB.out))); rintro e w11 ⟨rfl, hb⟩; refine ⟨_, rfl, ?_⟩; have n0_ := Aside0.mk (blk_below (pl BK119.out) hb); have n1_ := Aside0.mk (below_step (by repeat (first | (with_reducible first | exact HB.out | apply below_alloc | apply pw_below_drewN | apply below_drew1 | refine below_set ?_ GE119.out) | exact HB.out)) hb); clear BK119; clear HB; have BK119 := n0_; have HB := n1_; clear n0_ n1_; (try clear hb); (try clear hb2); (try clear hk); (try clear hi); have hcz12_0 : w11.cell? ⟨gb119, 0, none⟩ = some (.int .i32 0) := (blk_cell BK119.out 0).trans rfl; have hcz12_1 : w11.cell? ⟨gb119, 1, none⟩ = some (.int .i64 0) := (blk_cell BK119.out 1).trans rfl; have hcz12_2 : w11.cell? ⟨gb119, 2, none⟩ = some (.bool false) := (blk_cell BK119.out 2).trans rfl; have hfz12_0 := blk_frozen BK119.out 0; have hfz12_1 := blk_frozen BK119.out 1; have hfz12_2 := blk_frozen BK119.out 2))
    refine bodyPost_ret (results_cell_row rfl _ _ gb119 64 #[.int .i32 t121, .int .i64 t122, .bool t123] (0, 0) _ rfl (by refine pl ?_; refine blk_put (cs := #[.int .i32 t121, .int .i64 t122, .bool false]) ?_ 2 _ rfl; refine pl ?_; refine blk_put (cs := #[.int .i32 t121, .int .i64 0, .bool false]) ?_ 1 _ rfl; refine pl ?_; refine blk_put (cs := #[.int .i32 0, .int .i64 0, .bool false]) ?_ 0 _ rfl; refine pl ?_; exact BK119.out) Tryd.underlying64 rfl (by kernel_rfl)) rfl ?_
    exact ⟨by first | rfl | (simp [errW_none, errW_some] <;> rfl) | (simp only [← hji3]; first | rfl | (simp [errW_none, errW_some] <;> rfl)) | (simp [*, errW_none, errW_some] <;> rfl), by repeat (first | (with_reducible first | exact HB.out | apply below_alloc | apply pw_below_drewN | apply below_drew1 | refine below_set ?_ GE119.out) | exact HB.out)⟩
   ·rw [if_neg c6] at H
    exact absurd H (by simp)
  ·rw [if_neg c5] at H
   exact absurd H (by simp)
 ·rw [if_neg c4] at H
  exact absurd H (by simp)
mutual
def step_inside.l0 : Nat → List Int → Int → Int → Option (Int)
 | 0, _, _, _ => none
 | k + 1, x0, x1, x5 => if x5 ≤ 3 then (step_inside.j1 k x0 x1 x5 (decide (x5 ≤ x1))) else (step_inside.j1 k x0 x1 x5 false)
def step_inside.j1 : Nat → List Int → Int → Int → Bool → Option (Int)
 | 0, _, _, _, _ => none
 | k + 1, x0, x1, x5, x12 => if x12 = true then ((step_at.f x0 (wrap64 (x1 - x5))).bind fun bt124 => (if bt124.2.1 > x5 then (some x5) else (step_inside.l0 k x0 x1 (wrap64 (x5 + 1))))) else (some 0)
end
def step_inside.f (k : Nat) (l0 : List Int) (a1 : Int) : Option (Int) := step_inside.l0 k l0 a1 1
set_option maxHeartbeats 8000000 in
set_option maxRecDepth 100000 in
theorem step_inside.calls (k : Nat) (A0 : Option Addr) (c0 : Nat) (l0 : List Int) (a1 : Int) (r : Int) (w : World) (hG : Glob.Globs w) (hr0 : Kd.C (Kd.int .u8) w A0 l0.length l0) (hc0 : l0.length ≤ c0) (h : step_inside.f k l0 a1 = some r) :
  Calls Tryd.prog 37 #[.slice A0 l0.length c0, .int .i64 a1] w fun e w' => e = .returned (.int .i64 r) ∧ Below w.heap.size w w' := by
 have HG := Aside0.mk hG
 have hu_step := fun (a b : Int) (c : Bool) (w : World) => (show Sem.run Tryd.prog (Instr.field 64 (.agg #[.int .i32 a, .int .i64 b, .bool c]) 1) w = .ok (.int .i64 b) w by kernel_rfl)
 clear hG; have HR0 := Aside0.mk hr0; have HC0 := Aside0.mk hc0; clear hr0 hc0
 have HB := Aside0.mk (Below.refl w.heap.size w)
 have H : (step_inside.l0 k l0 a1 1) = some r := h
 clear h; have H' := Aside0.mk H; clear H
 go_enter Tryd.func37, Tryd.ntmps37
 go_wp2
 go_loopg [5] k (fun kq v5 w' => ∃ (x5_1 : Int), v5 = .int .i64 x5_1 ∧ Aside0 (step_inside.l0 kq l0 a1 x5_1 = some r) ∧ Aside0 (kq ≤ k) ∧ Aside0 (Below w.heap.size w w'))
 case atStart => exact ⟨(1), (by first | rfl | (simp; done) | (simp [*]; done)), H', ⟨Nat.le_refl _⟩, ⟨bl HB.out⟩⟩
 case round =>
  clear H'
  (try clear p2)
  obtain ⟨x5_1, rfl, HA, HK1, HB⟩ := hrel
  cases gk with
  | zero => exact absurd HA.out (by simp [step_inside.l0])
  | succ k1 =>
   have H := HA.out; clear HA
   simp only [step_inside.l0] at H
   have HC3 := Aside0.mk H; clear H
   go_upto_region 2 with (fail)
   go_cut [12] (fun v12 wc => ∃ (kq : Nat) (x12_2 : Bool), v12 = .bool x12_2 ∧ Aside0 (step_inside.j1 kq l0 a1 x5_1 x12_2 = some r) ∧ Aside0 (kq ≤ k1) ∧ Aside0 (Below w.heap.size w wc))
   case first =>
    have H := HC3.out; clear HC3
    by_cases c4 : x5_1 ≤ 3
    ·rw [if_pos c4] at H
     have c4b0 : decide (x5_1 ≤ 3) = true := decide_eq_true c4
     clear c4
     (first | rw [c4b0] | (simp only [i64_w, i32_w]; rw [c4b0]) | skip)
     have H' := Aside0.mk H; clear H
     go_wp2
     go_meet
     case rel => exact ⟨_, (decide (x5_1 ≤ a1)), (by first | rfl | (simp; done) | (simp [*]; done)), H', ⟨by have := HK1.out; first | omega | exact Nat.le_refl _⟩, ⟨bl HB.out⟩⟩
    ·rw [if_neg c4] at H
     have c4b0 : decide (x5_1 ≤ 3) = false := decide_eq_false c4
     clear c4
     (first | rw [c4b0] | (simp only [i64_w, i32_w]; rw [c4b0]) | skip)
     have H' := Aside0.mk H; clear H
     go_wp2
     go_meet
     case rel => exact ⟨_, (false), (by first | rfl | (simp; done) | (simp [*]; done)), H', ⟨by have := HK1.out; first | omega | exact Nat.le_refl _⟩, ⟨bl HB.out⟩⟩
   case rest =>
    clear HC3; (try clear p2); (try clear c3); (try clear c4); (try clear c4b0); (try clear p2)
    obtain ⟨kq, x12_2, rfl, HA, HJ2, HB⟩ := hcut
    cases kq with
    | zero => exact absurd HA.out (by simp [step_inside.j1])
    | succ kj2 =>
     have H := HA.out; clear HA
     simp only [step_inside.j1] at H
     by_cases c5 : x12_2 = true
     ·subst c5
      have H1 := H; rw [if_pos rfl] at H1
      clear H; have H := H1; clear H1
      replace H := Option.bind_eq_some_iff.mp H
      obtain ⟨⟨t124, t125, t126⟩, A60, H⟩ := H
      have A6 := Aside0.mk A60; clear A60
      by_cases c7 : t125 > x5_1
      ·rw [if_pos c7] at H
       have c7b0 : decide (x5_1 < t125) = true := decide_eq_true c7
       clear c7
       obtain rfl := Option.some.inj H
       go_wp2_with (first | ((with_reducible refine gate_callee (f := 48) rfl ?_); refine goesL_ (some 19) rfl rfl Tryd.func48 (by kernel_rfl) rfl #[.slice A0 l0.length c0, .int .i64 (wrap64 (a1 - x5_1))] rfl (by (try simp only [List.map_toArray, List.map_cons, List.map_nil]); first | done | rfl | (simp only [List.length_drop, List.length_take]; rfl)) ?_; (with_reducible refine (step_at.calls _ _ l0 (wrap64 (a1 - x5_1)) t124 t125 t126 _ ?side1 ?side2 ?side3 A6.out).mono ?_); (case side1 => first | (with_reducible exact HG.out) | exact Glob.Globs_below HG.out (bl HB.out)); (case side2 => repeat (first | exact (Kd.C_below HR0.out HB.out) | (with_reducible refine Kd.C_alloc ?_ _) | (with_reducible refine Kd.C_drewN ?_ _) | (with_reducible refine Kd.C_drew ?_))); (case side3 => exact HC0.out); rintro e w8 ⟨rfl, hb⟩; refine ⟨_, rfl, ?_⟩; have n0_ := Aside0.mk (below_step (bl HB.out) hb); clear HB; have HB := n0_; clear n0_; (try clear hb); (try clear hb2); (try clear hk); (try clear hi)))
       go_ret
       exact ⟨by first | rfl | (simp [errW_none, errW_some] <;> rfl) | (simp [*, errW_none, errW_some] <;> rfl), bl HB.out⟩
      ·rw [if_neg c7] at H
       have c7b0 : decide (x5_1 < t125) = false := decide_eq_false c7
       clear c7; have H' := Aside0.mk H; clear H
       go_wp2_with (first | ((with_reducible refine gate_callee (f := 48) rfl ?_); refine goesL_ (some 19) rfl rfl Tryd.func48 (by kernel_rfl) rfl #[.slice A0 l0.length c0, .int .i64 (wrap64 (a1 - x5_1))] rfl (by (try simp only [List.map_toArray, List.map_cons, List.map_nil]); first | done | rfl | (simp only [List.length_drop, List.length_take]; rfl)) ?_; (with_reducible refine (step_at.calls _ _ l0 (wrap64 (a1 - x5_1)) t124 t125 t126 _ ?side1 ?side2 ?side3 A6.out).mono ?_); (case side1 => first | (with_reducible exact HG.out) | exact Glob.Globs_below HG.out (bl HB.out)); (case side2 => repeat (first | exact (Kd.C_below HR0.out HB.out) | (with_reducible refine Kd.C_alloc ?_ _) | (with_reducible refine Kd.C_drewN ?_ _) | (with_reducible refine Kd.C_drew ?_))); (case side3 => exact HC0.out); rintro e w9 ⟨rfl, hb⟩; refine ⟨_, rfl, ?_⟩; have n0_ := Aside0.mk (below_step (bl HB.out) hb); clear HB; have HB := n0_; clear n0_; (try clear hb); (try clear hb2); (try clear hk); (try clear hi)))
       go_roundg kj2
       case measure => have := HK1.out; have := HJ2.out; omega
       case rel => exact ⟨(wrap64 (x5_1 + 1)), (by first | rfl | (simp; done) | (simp [*]; done)), H', ⟨by have := HK1.out; have := HJ2.out; omega⟩, ⟨bl HB.out⟩⟩
     ·replace c5 := Bool.eq_false_iff.mpr c5
      subst c5
      have H1 := H; rw [if_neg (show ¬ (false = true) by decide)] at H1
      clear H; have H := H1; clear H1
      obtain rfl := Option.some.inj H
      go_wp2
      go_ret
      exact ⟨by first | rfl | (simp [errW_none, errW_some] <;> rfl) | (simp [*, errW_none, errW_some] <;> rfl), bl HB.out⟩
def step_Floor.f (k : Nat) (l0 : List Int) (a1 : Int) : Option (Int × Int) := if a1 < 0 then (some (0, 2)) else (if a1 > (l0.length : Int) then (some (0, 2)) else ((step_inside.f k l0 a1).bind fun t127 => (some (wrap64 (a1 - t127), 0))))
set_option maxHeartbeats 8000000 in
set_option maxRecDepth 100000 in
theorem step_Floor.calls (k : Nat) (A0 : Option Addr) (c0 : Nat) (l0 : List Int) (a1 : Int) (r1 : Int) (r2 : Int) (w : World) (hG : Glob.Globs w) (hr0 : Kd.C (Kd.int .u8) w A0 l0.length l0) (hc0 : l0.length ≤ c0) (h : step_Floor.f k l0 a1 = some (r1, r2)) :
  Calls Tryd.prog 28 #[.slice A0 l0.length c0, .int .i64 a1] w fun e w' => e = .returned (.tuple #[.int .i64 r1, .int .i64 r2]) ∧ Below w.heap.size w w' := by
 have HG := Aside0.mk hG; clear hG; have HR0 := Aside0.mk hr0; have HC0 := Aside0.mk hc0; clear hr0 hc0
 have HB := Aside0.mk (Below.refl w.heap.size w)
 have H : (if a1 < 0 then (some (0, 2)) else (if a1 > (l0.length : Int) then (some (0, 2)) else ((step_inside.f k l0 a1).bind fun t127 => (some (wrap64 (a1 - t127), 0))))) = some (r1, r2) := h
 clear h
 by_cases c3 : a1 < 0
 ·rw [if_pos c3] at H
  have c3b0 : decide (a1 < 0) = true := decide_eq_true c3
  clear c3
  simp only [Option.some.injEq, Prod.mk.injEq] at H
  obtain ⟨rfl, rfl⟩ := H
  go_enter Tryd.func28, Tryd.ntmps28
  go_wp2
  go_ret2
  exact ⟨by first | rfl | (simp [errW_none, errW_some] <;> rfl) | (simp [*, errW_none, errW_some] <;> rfl), bl HB.out⟩
 ·rw [if_neg c3] at H
  have c3b0 : decide (a1 < 0) = false := decide_eq_false c3
  clear c3
  by_cases c4 : a1 > (l0.length : Int)
  ·rw [if_pos c4] at H
   have c4b0 : decide ((l0.length : Int) < a1) = true := decide_eq_true c4
   clear c4
   simp only [Option.some.injEq, Prod.mk.injEq] at H
   obtain ⟨rfl, rfl⟩ := H
   go_enter Tryd.func28, Tryd.ntmps28
   go_wp2
   go_ret2
   exact ⟨by first | rfl | (simp [errW_none, errW_some] <;> rfl) | (simp [*, errW_none, errW_some] <;> rfl), bl HB.out⟩
  ·rw [if_neg c4] at H
   have c4b0 : decide ((l0.length : Int) < a1) = false := decide_eq_false c4
   clear c4
   replace H := Option.bind_eq_some_iff.mp H
   obtain ⟨t127, A50, H⟩ := H
   have A5 := Aside0.mk A50; clear A50
   simp only [Option.some.injEq, Prod.mk.injEq] at H
   obtain ⟨rfl, rfl⟩ := H
   go_enter Tryd.func28, Tryd.ntmps28
   go_wp2_with (first | ((with_reducible refine gate_callee (f := 37) rfl ?_); refine goesL_ (some 17) rfl rfl Tryd.func37 (by kernel_rfl) rfl #[.slice A0 l0.length c0, .int .i64 a1] rfl (by (try simp only [List.map_toArray, List.map_cons, List.map_nil]); first | done | rfl | (simp only [List.length_drop, List.length_take]; rfl)) ?_; (with_reducible refine (step_inside.calls k _ _ l0 a1 t127 _ ?side1 ?side2 ?side3 A5.out).mono ?_); (case side1 => first | (with_reducible exact HG.out) | exact Glob.Globs_below HG.out (bl HB.out)); (case side2 => repeat (first | exact HR0.out | (with_reducible refine Kd.C_alloc ?_ _) | (with_reducible refine Kd.C_drewN ?_ _) | (with_reducible refine Kd.C_drew ?_))); (case side3 => exact HC0.out); rintro e w6 ⟨rfl, hb⟩; refine ⟨_, rfl, ?_⟩; have n0_ := Aside0.mk (below_step (bl HB.out) hb); clear HB; have HB := n0_; clear n0_; (try clear hb); (try clear hb2); (try clear hk); (try clear hi)))
   go_ret2
   exact ⟨by first | rfl | (simp [errW_none, errW_some] <;> rfl) | (simp [*, errW_none, errW_some] <;> rfl), bl HB.out⟩

-- NOT PRINTED: function 11 (leaf_Cut)

-- NOT PRINTED: function 14 (leaf_Leaf_Len)

-- NOT PRINTED: function 32 (leaf_Leaf_place)

-- NOT PRINTED: function 17 (leaf_Leaf_Before)

-- NOT PRINTED: function 19 (leaf_Leaf_Bytes)

-- NOT PRINTED: function 12 (galleylaw08_fixed)

-- NOT PRINTED: function 3 (galleylaw08_LeafNames)
def galleyref02_at.f (l0 : List Int) (a1 : Int) : Option (Int) := if a1 < 0 then (some (-1)) else (if a1 ≥ (l0.length : Int) then (some (-1)) else (if 0 ≤ a1 then (if a1 < (l0.length : Int) then (some (wrap64 (rd l0 a1))) else (none)) else (none)))
set_option maxHeartbeats 8000000 in
set_option maxRecDepth 100000 in
theorem galleyref02_at.calls (A0 : Option Addr) (c0 : Nat) (l0 : List Int) (a1 : Int) (r : Int) (w : World) (hr0 : Kd.C (Kd.int .u8) w A0 l0.length l0) (hc0 : l0.length ≤ c0) (h : galleyref02_at.f l0 a1 = some r) :
  Calls Tryd.prog 49 #[.slice A0 l0.length c0, .int .i64 a1] w fun e w' => e = .returned (.int .i64 r) ∧ Drawn0 w w' := by
 have HR0 := Aside0.mk hr0; have HC0 := Aside0.mk hc0; clear hr0 hc0
 have H : (if a1 < 0 then (some (-1)) else (if a1 ≥ (l0.length : Int) then (some (-1)) else (if 0 ≤ a1 then (if a1 < (l0.length : Int) then (some (wrap64 (rd l0 a1))) else (none)) else (none)))) = some r := h
 clear h
 by_cases c3 : a1 < 0
 ·rw [if_pos c3] at H
  have c3b0 : decide (a1 < 0) = true := decide_eq_true c3
  clear c3
  obtain rfl := Option.some.inj H
  go_enter Tryd.func49, Tryd.ntmps49
  go_wp2
  go_ret
  exact ⟨by first | rfl | (simp; done) | (simp [*]; done), by repeat (first | exact Drawn0.refl _ | apply Drawn0.step)⟩
 ·rw [if_neg c3] at H
  have c3b0 : decide (a1 < 0) = false := decide_eq_false c3
  clear c3
  by_cases c4 : a1 ≥ (l0.length : Int)
  ·rw [if_pos c4] at H
   have c4b0 : decide ((l0.length : Int) ≤ a1) = true := decide_eq_true c4
   clear c4
   obtain rfl := Option.some.inj H
   go_enter Tryd.func49, Tryd.ntmps49
   go_wp2
   go_ret
   exact ⟨by first | rfl | (simp; done) | (simp [*]; done), by repeat (first | exact Drawn0.refl _ | apply Drawn0.step)⟩
  ·rw [if_neg c4] at H
   have c4b0 : decide ((l0.length : Int) ≤ a1) = false := decide_eq_false c4
   clear c4
   by_cases c5 : 0 ≤ a1
   ·rw [if_pos c5] at H
    have c5b0 : decide (0 ≤ a1) = true := decide_eq_true c5
    clear c5
    by_cases c6 : a1 < (l0.length : Int)
    ·rw [if_pos c6] at H
     have c6b0 : decide (a1 < (l0.length : Int)) = true := decide_eq_true c6
     clear c6
     obtain rfl := Option.some.inj H
     have p135 : 0 ≤ (a1 : Int) := of_decide_eq_true (by first | (with_reducible assumption) | assumption)
     have q135 : a1 < (l0.length : Int) := of_decide_eq_true (by first | (with_reducible assumption) | assumption)
     obtain ⟨ad135, e135, hx135_0⟩ := Kd.at_int HR0.out a1 p135 q135
     cases e135
     replace p135 := eq_true p135
     replace q135 := eq_true q135
     go_enter Tryd.func49, Tryd.ntmps49
     go_wp2
     go_ret
     exact ⟨by first | rfl | (simp; done) | (simp [*]; done), by repeat (first | exact Drawn0.refl _ | apply Drawn0.step)⟩
    ·rw [if_neg c6] at H
     exact absurd H (by simp)
   ·rw [if_neg c5] at H
    exact absurd H (by simp)
def galleyref02_in.f (a0 : Int) (a1 : Int) (a2 : Int) : Option (Bool) := if a0 ≥ a1 then (some (decide (a0 ≤ a2))) else (some false)
set_option maxHeartbeats 8000000 in
set_option maxRecDepth 100000 in
theorem galleyref02_in.calls (a0 : Int) (a1 : Int) (a2 : Int) (r : Bool) (w : World) (h : galleyref02_in.f a0 a1 a2 = some r) :
  Calls Tryd.prog 50 #[.int .i64 a0, .int .i64 a1, .int .i64 a2] w fun e w' => e = .returned (.bool r) ∧ Drawn0 w w' := by
 have H : (if a0 ≥ a1 then (some (decide (a0 ≤ a2))) else (some false)) = some r := h
 clear h
 by_cases c4 : a0 ≥ a1
 ·rw [if_pos c4] at H
  have c4b0 : decide (a1 ≤ a0) = true := decide_eq_true c4
  clear c4
  obtain rfl := Option.some.inj H
  go_enter Tryd.func50, Tryd.ntmps50
  go_wp2
  go_ret
  exact ⟨by first | rfl | (simp; done) | (simp [*]; done), by repeat (first | exact Drawn0.refl _ | apply Drawn0.step)⟩
 ·rw [if_neg c4] at H
  have c4b0 : decide (a1 ≤ a0) = false := decide_eq_false c4
  clear c4
  obtain rfl := Option.some.inj H
  go_enter Tryd.func50, Tryd.ntmps50
  go_wp2
  go_ret
  exact ⟨by first | rfl | (simp; done) | (simp [*]; done), by repeat (first | exact Drawn0.refl _ | apply Drawn0.step)⟩
end Go.Proofs.YteoonhidjldnfaaDoor.Pr

namespace Go.Proofs.YteoonhidjldnfaaDoor.Pr
open Go.RowKit Go.Proofs.YteoonhidjldnfaaDoorW.PrintWords Go.Proofs.YteoonhidjldnfaaDoorW.PrintLast Go.Proofs.YteoonhidjldnfaaDoorW.PrintMore
attribute [local go_sem] max2_int min2_int max_two min_two max_three min_three max_four min_four   -- for this text's walks alone
set_option linter.unusedVariables false
set_option linter.unusedSimpArgs false
mutual
def galleyref02_Long.j0 : Nat → Int → Int → Int → Int → Bool → Option (Int)
 | 0, _, _, _, _, _ => none
 | k + 1, x5, x6, x7, x8, x31 => if x31 = true then (some 2) else ((galleyref02_in.f x7 128 191).bind fun t143 => (if t143 = true then (if x5 = 224 then ((galleyref02_in.f x6 160 191).bind fun t144 => (if t144 = true then (some 3) else ((galleyref02_in.f x5 225 236).bind fun t145 => (if t145 = true then ((galleyref02_in.f x6 128 191).bind fun t146 => (if t146 = true then (some 3) else (if x5 = 237 then ((galleyref02_in.f x6 128 159).bind fun t147 => (if t147 = true then (some 3) else ((galleyref02_in.f x5 238 239).bind fun t148 => (if t148 = true then ((galleyref02_in.f x6 128 191).bind fun t149 => (if t149 = true then (some 3) else (galleyref02_Long.j1 k x5 x6 x7 x8))) else (galleyref02_Long.j1 k x5 x6 x7 x8))))) else ((galleyref02_in.f x5 238 239).bind fun t150 => (if t150 = true then ((galleyref02_in.f x6 128 191).bind fun t151 => (if t151 = true then (some 3) else (galleyref02_Long.j1 k x5 x6 x7 x8))) else (galleyref02_Long.j1 k x5 x6 x7 x8)))))) else (if x5 = 237 then ((galleyref02_in.f x6 128 159).bind fun t152 => (if t152 = true then (some 3) else ((galleyref02_in.f x5 238 239).bind fun t153 => (if t153 = true then ((galleyref02_in.f x6 128 191).bind fun t154 => (if t154 = true then (some 3) else (galleyref02_Long.j1 k x5 x6 x7 x8))) else (galleyref02_Long.j1 k x5 x6 x7 x8))))) else ((galleyref02_in.f x5 238 239).bind fun t155 => (if t155 = true then ((galleyref02_in.f x6 128 191).bind fun t156 => (if t156 = true then (some 3) else (galleyref02_Long.j1 k x5 x6 x7 x8))) else (galleyref02_Long.j1 k x5 x6 x7 x8)))))))) else ((galleyref02_in.f x5 225 236).bind fun t157 => (if t157 = true then ((galleyref02_in.f x6 128 191).bind fun t158 => (if t158 = true then (some 3) else (if x5 = 237 then ((galleyref02_in.f x6 128 159).bind fun t159 => (if t159 = true then (some 3) else ((galleyref02_in.f x5 238 239).bind fun t160 => (if t160 = true then ((galleyref02_in.f x6 128 191).bind fun t161 => (if t161 = true then (some 3) else (galleyref02_Long.j1 k x5 x6 x7 x8))) else (galleyref02_Long.j1 k x5 x6 x7 x8))))) else ((galleyref02_in.f x5 238 239).bind fun t162 => (if t162 = true then ((galleyref02_in.f x6 128 191).bind fun t163 => (if t163 = true then (some 3) else (galleyref02_Long.j1 k x5 x6 x7 x8))) else (galleyref02_Long.j1 k x5 x6 x7 x8)))))) else (if x5 = 237 then ((galleyref02_in.f x6 128 159).bind fun t164 => (if t164 = true then (some 3) else ((galleyref02_in.f x5 238 239).bind fun t165 => (if t165 = true then ((galleyref02_in.f x6 128 191).bind fun t166 => (if t166 = true then (some 3) else (galleyref02_Long.j1 k x5 x6 x7 x8))) else (galleyref02_Long.j1 k x5 x6 x7 x8))))) else ((galleyref02_in.f x5 238 239).bind fun t167 => (if t167 = true then ((galleyref02_in.f x6 128 191).bind fun t168 => (if t168 = true then (some 3) else (galleyref02_Long.j1 k x5 x6 x7 x8))) else (galleyref02_Long.j1 k x5 x6 x7 x8))))))) else (galleyref02_Long.j1 k x5 x6 x7 x8)))
def galleyref02_Long.j1 : Nat → Int → Int → Int → Int → Option (Int)
 | 0, _, _, _, _ => none
 | k + 1, x5, x6, x7, x8 => (galleyref02_in.f x7 128 191).bind fun t169 => (if t169 = true then ((galleyref02_in.f x8 128 191).bind fun t170 => (galleyref02_Long.j2 k x5 x6 t170)) else (galleyref02_Long.j2 k x5 x6 false))
def galleyref02_Long.j2 : Nat → Int → Int → Bool → Option (Int)
 | 0, _, _, _ => none
 | k + 1, x5, x6, x69 => if x69 = true then (if x5 = 240 then ((galleyref02_in.f x6 144 191).bind fun t171 => (if t171 = true then (some 4) else ((galleyref02_in.f x5 241 243).bind fun t172 => (if t172 = true then ((galleyref02_in.f x6 128 191).bind fun t173 => (if t173 = true then (some 4) else (if x5 = 244 then ((galleyref02_in.f x6 128 143).bind fun t174 => (if t174 = true then (some 4) else (some 0))) else (some 0)))) else (if x5 = 244 then ((galleyref02_in.f x6 128 143).bind fun t175 => (if t175 = true then (some 4) else (some 0))) else (some 0)))))) else ((galleyref02_in.f x5 241 243).bind fun t176 => (if t176 = true then ((galleyref02_in.f x6 128 191).bind fun t177 => (if t177 = true then (some 4) else (if x5 = 244 then ((galleyref02_in.f x6 128 143).bind fun t178 => (if t178 = true then (some 4) else (some 0))) else (some 0)))) else (if x5 = 244 then ((galleyref02_in.f x6 128 143).bind fun t179 => (if t179 = true then (some 4) else (some 0))) else (some 0))))) else (some 0)
end
def galleyref02_Long.f (k : Nat) (l0 : List Int) (a1 : Int) : Option (Int) := (galleyref02_at.f l0 a1).bind fun t136 => ((galleyref02_at.f l0 (wrap64 (a1 + 1))).bind fun t137 => ((galleyref02_at.f l0 (wrap64 (a1 + 2))).bind fun t138 => ((galleyref02_at.f l0 (wrap64 (a1 + 3))).bind fun t139 => ((galleyref02_in.f t136 0 127).bind fun t140 => (if t140 = true then (some 1) else ((galleyref02_in.f t136 194 223).bind fun t141 => (if t141 = true then ((galleyref02_in.f t137 128 191).bind fun t142 => (galleyref02_Long.j0 k t136 t137 t138 t139 t142)) else (galleyref02_Long.j0 k t136 t137 t138 t139 false))))))))
set_option maxHeartbeats 8000000 in
set_option maxRecDepth 100000 in
theorem galleyref02_Long.calls (k : Nat) (A0 : Option Addr) (c0 : Nat) (l0 : List Int) (a1 : Int) (r : Int) (w : World) (hr0 : Kd.C (Kd.int .u8) w A0 l0.length l0) (hc0 : l0.length ≤ c0) (h : galleyref02_Long.f k l0 a1 = some r) :
  Calls Tryd.prog 38 #[.slice A0 l0.length c0, .int .i64 a1] w fun e w' => e = .returned (.int .i64 r) ∧ Drawn0 w w' := by
 have HR0 := Aside0.mk hr0; have HC0 := Aside0.mk hc0; clear hr0 hc0
 have H : ((galleyref02_at.f l0 a1).bind fun t136 => ((galleyref02_at.f l0 (wrap64 (a1 + 1))).bind fun t137 => ((galleyref02_at.f l0 (wrap64 (a1 + 2))).bind fun t138 => ((galleyref02_at.f l0 (wrap64 (a1 + 3))).bind fun t139 => ((galleyref02_in.f t136 0 127).bind fun t140 => (if t140 = true then (some 1) else ((galleyref02_in.f t136 194 223).bind fun t141 => (if t141 = true then ((galleyref02_in.f t137 128 191).bind fun t142 => (galleyref02_Long.j0 k t136 t137 t138 t139 t142)) else (galleyref02_Long.j0 k t136 t137 t138 t139 false))))))))) = some r := h
 clear h
 replace H := Option.bind_eq_some_iff.mp H
 obtain ⟨t136, A30, H⟩ := H
 have A3 := Aside0.mk A30; clear A30
 replace H := Option.bind_eq_some_iff.mp H
 obtain ⟨t137, A40, H⟩ := H
 have A4 := Aside0.mk A40; clear A40
 replace H := Option.bind_eq_some_iff.mp H
 obtain ⟨t138, A50, H⟩ := H
 have A5 := Aside0.mk A50; clear A50
 replace H := Option.bind_eq_some_iff.mp H
 obtain ⟨t139, A60, H⟩ := H
 have A6 := Aside0.mk A60; clear A60
 replace H := Option.bind_eq_some_iff.mp H
 obtain ⟨t140, A70, H⟩ := H
 have A7 := Aside0.mk A70; clear A70
 by_cases c8 : t140 = true
 ·subst c8
  have H1 := H; rw [if_pos rfl] at H1
  clear H; have H := H1; clear H1
  obtain rfl := Option.some.inj H
  go_enter Tryd.func38, Tryd.ntmps38
  go_wp2_with (first | ((with_reducible refine gate_callee (f := 49) rfl ?_); refine goesL_ (some 11) rfl rfl Tryd.func49 (by kernel_rfl) rfl #[.slice A0 l0.length c0, .int .i64 a1] rfl (by (try simp only [List.map_toArray, List.map_cons, List.map_nil]); first | done | rfl | (simp only [List.length_drop, List.length_take]; rfl)) ?_; (with_reducible refine (galleyref02_at.calls _ _ l0 a1 t136 _ ?side1 ?side2 A3.out).mono ?_); (case side1 => repeat (first | exact HR0.out | (with_reducible refine Kd.C_alloc ?_ _) | (with_reducible refine Kd.C_drewN ?_ _) | (with_reducible refine Kd.C_drew ?_))); (case side2 => exact HC0.out); rintro e w' ⟨rfl, ⟨nd, rfl⟩⟩; refine ⟨_, rfl, ?_⟩) | ((with_reducible refine gate_callee (f := 49) rfl ?_); refine goesL_ (some 15) rfl rfl Tryd.func49 (by kernel_rfl) rfl #[.slice A0 l0.length c0, .int .i64 (wrap64 (a1 + 1))] rfl (by (try simp only [List.map_toArray, List.map_cons, List.map_nil]); first | done | rfl | (simp only [List.length_drop, List.length_take]; rfl)) ?_; (with_reducible refine (galleyref02_at.calls _ _ l0 (wrap64 (a1 + 1)) t137 _ ?side1 ?side2 A4.out).mono ?_); (case side1 => repeat (first | exact HR0.out | (with_reducible refine Kd.C_alloc ?_ _) | (with_reducible refine Kd.C_drewN ?_ _) | (with_reducible refine Kd.C_drew ?_))); (case side2 => exact HC0.out); rintro e w' ⟨rfl, ⟨nd, rfl⟩⟩; refine ⟨_, rfl, ?_⟩) | ((with_reducible refine gate_callee (f := 49) rfl ?_); refine goesL_ (some 19) rfl rfl Tryd.func49 (by kernel_rfl) rfl #[.slice A0 l0.length c0, .int .i64 (wrap64 (a1 + 2))] rfl (by (try simp only [List.map_toArray, List.map_cons, List.map_nil]); first | done | rfl | (simp only [List.length_drop, List.length_take]; rfl)) ?_; (with_reducible refine (galleyref02_at.calls _ _ l0 (wrap64 (a1 + 2)) t138 _ ?side1 ?side2 A5.out).mono ?_); (case side1 => repeat (first | exact HR0.out | (with_reducible refine Kd.C_alloc ?_ _) | (with_reducible refine Kd.C_drewN ?_ _) | (with_reducible refine Kd.C_drew ?_))); (case side2 => exact HC0.out); rintro e w' ⟨rfl, ⟨nd, rfl⟩⟩; refine ⟨_, rfl, ?_⟩) | ((with_reducible refine gate_callee (f := 49) rfl ?_); refine goesL_ (some 23) rfl rfl Tryd.func49 (by kernel_rfl) rfl #[.slice A0 l0.length c0, .int .i64 (wrap64 (a1 + 3))] rfl (by (try simp only [List.map_toArray, List.map_cons, List.map_nil]); first | done | rfl | (simp only [List.length_drop, List.length_take]; rfl)) ?_; (with_reducible refine (galleyref02_at.calls _ _ l0 (wrap64 (a1 + 3)) t139 _ ?side1 ?side2 A6.out).mono ?_); (case side1 => repeat (first | exact HR0.out | (with_reducible refine Kd.C_alloc ?_ _) | (with_reducible refine Kd.C_drewN ?_ _) | (with_reducible refine Kd.C_drew ?_))); (case side2 => exact HC0.out); rintro e w' ⟨rfl, ⟨nd, rfl⟩⟩; refine ⟨_, rfl, ?_⟩) | ((with_reducible refine gate_callee (f := 50) rfl ?_); refine goesL_ (some 25) rfl rfl Tryd.func50 (by kernel_rfl) rfl #[.int .i64 t136, .int .i64 0, .int .i64 127] rfl (by (try simp only [List.map_toArray, List.map_cons, List.map_nil]); first | done | rfl | (simp only [List.length_drop, List.length_take]; rfl)) ?_; (with_reducible refine (galleyref02_in.calls t136 0 127 true _ A7.out).mono ?_); rintro e w' ⟨rfl, ⟨nd, rfl⟩⟩; refine ⟨_, rfl, ?_⟩))
  go_ret
  exact ⟨by first | rfl | (simp; done) | (simp [*]; done), by repeat (first | exact Drawn0.refl _ | apply Drawn0.step)⟩
 ·replace c8 := Bool.eq_false_iff.mpr c8
  subst c8
  have H1 := H; rw [if_neg (show ¬ (false = true) by decide)] at H1
  clear H; have H := H1; clear H1; have HC9 := Aside0.mk H; clear H
  go_enter Tryd.func38, Tryd.ntmps38
  go_upto_region 4 with (first | ((with_reducible refine gate_callee (f := 49) rfl ?_); refine goesL_ (some 11) rfl rfl Tryd.func49 (by kernel_rfl) rfl #[.slice A0 l0.length c0, .int .i64 a1] rfl (by (try simp only [List.map_toArray, List.map_cons, List.map_nil]); first | done | rfl | (simp only [List.length_drop, List.length_take]; rfl)) ?_; (with_reducible refine (galleyref02_at.calls _ _ l0 a1 t136 _ ?side1 ?side2 A3.out).mono ?_); (case side1 => repeat (first | exact HR0.out | (with_reducible refine Kd.C_alloc ?_ _) | (with_reducible refine Kd.C_drewN ?_ _) | (with_reducible refine Kd.C_drew ?_))); (case side2 => exact HC0.out); rintro e w' ⟨rfl, ⟨nd, rfl⟩⟩; refine ⟨_, rfl, ?_⟩) | ((with_reducible refine gate_callee (f := 49) rfl ?_); refine goesL_ (some 15) rfl rfl Tryd.func49 (by kernel_rfl) rfl #[.slice A0 l0.length c0, .int .i64 (wrap64 (a1 + 1))] rfl (by (try simp only [List.map_toArray, List.map_cons, List.map_nil]); first | done | rfl | (simp only [List.length_drop, List.length_take]; rfl)) ?_; (with_reducible refine (galleyref02_at.calls _ _ l0 (wrap64 (a1 + 1)) t137 _ ?side1 ?side2 A4.out).mono ?_); (case side1 => repeat (first | exact HR0.out | (with_reducible refine Kd.C_alloc ?_ _) | (with_reducible refine Kd.C_drewN ?_ _) | (with_reducible refine Kd.C_drew ?_))); (case side2 => exact HC0.out); rintro e w' ⟨rfl, ⟨nd, rfl⟩⟩; refine ⟨_, rfl, ?_⟩) | ((with_reducible refine gate_callee (f := 49) rfl ?_); refine goesL_ (some 19) rfl rfl Tryd.func49 (by kernel_rfl) rfl #[.slice A0 l0.length c0, .int .i64 (wrap64 (a1 + 2))] rfl (by (try simp only [List.map_toArray, List.map_cons, List.map_nil]); first | done | rfl | (simp only [List.length_drop, List.length_take]; rfl)) ?_; (with_reducible refine (galleyref02_at.calls _ _ l0 (wrap64 (a1 + 2)) t138 _ ?side1 ?side2 A5.out).mono ?_); (case side1 => repeat (first | exact HR0.out | (with_reducible refine Kd.C_alloc ?_ _) | (with_reducible refine Kd.C_drewN ?_ _) | (with_reducible refine Kd.C_drew ?_))); (case side2 => exact HC0.out); rintro e w' ⟨rfl, ⟨nd, rfl⟩⟩; refine ⟨_, rfl, ?_⟩) | ((with_reducible refine gate_callee (f := 49) rfl ?_); refine goesL_ (some 23) rfl rfl Tryd.func49 (by kernel_rfl) rfl #[.slice A0 l0.length c0, .int .i64 (wrap64 (a1 + 3))] rfl (by (try simp only [List.map_toArray, List.map_cons, List.map_nil]); first | done | rfl | (simp only [List.length_drop, List.length_take]; rfl)) ?_; (with_reducible refine (galleyref02_at.calls _ _ l0 (wrap64 (a1 + 3)) t139 _ ?side1 ?side2 A6.out).mono ?_); (case side1 => repeat (first | exact HR0.out | (with_reducible refine Kd.C_alloc ?_ _) | (with_reducible refine Kd.C_drewN ?_ _) | (with_reducible refine Kd.C_drew ?_))); (case side2 => exact HC0.out); rintro e w' ⟨rfl, ⟨nd, rfl⟩⟩; refine ⟨_, rfl, ?_⟩) | ((with_reducible refine gate_callee (f := 50) rfl ?_); refine goesL_ (some 25) rfl rfl Tryd.func50 (by kernel_rfl) rfl #[.int .i64 t136, .int .i64 0, .int .i64 127] rfl (by (try simp only [List.map_toArray, List.map_cons, List.map_nil]); first | done | rfl | (simp only [List.length_drop, List.length_take]; rfl)) ?_; (with_reducible refine (galleyref02_in.calls t136 0 127 false _ A7.out).mono ?_); rintro e w' ⟨rfl, ⟨nd, rfl⟩⟩; refine ⟨_, rfl, ?_⟩))
  (try simp only [Act.put, List.setIfInBounds_toArray, List.set_cons_zero, List.set_cons_succ])
  go_cut [31] (fun v31 wc => ∃ (kq : Nat) (x31_8 : Bool), v31 = .bool x31_8 ∧ Aside0 (galleyref02_Long.j0 kq t136 t137 t138 t139 x31_8 = some r) ∧ Aside0 (kq ≤ k) ∧ Drawn0 w wc)
  case first =>
   have H := HC9.out; clear HC9
   replace H := Option.bind_eq_some_iff.mp H
   obtain ⟨t141, A100, H⟩ := H
   have A10 := Aside0.mk A100; clear A100
   by_cases c11 : t141 = true
   ·subst c11
    have H1 := H; rw [if_pos rfl] at H1
    clear H; have H := H1; clear H1
    replace H := Option.bind_eq_some_iff.mp H
    obtain ⟨t142, A120, H⟩ := H
    have A12 := Aside0.mk A120; clear A120; have H' := Aside0.mk H; clear H
    go_wp2_with (first | ((with_reducible refine gate_callee (f := 50) rfl ?_); refine goesL_ (some 27) rfl rfl Tryd.func50 (by kernel_rfl) rfl #[.int .i64 t136, .int .i64 194, .int .i64 223] rfl (by (try simp only [List.map_toArray, List.map_cons, List.map_nil]); first | done | rfl | (simp only [List.length_drop, List.length_take]; rfl)) ?_; (with_reducible refine (galleyref02_in.calls t136 194 223 true _ A10.out).mono ?_); rintro e w' ⟨rfl, ⟨nd, rfl⟩⟩; refine ⟨_, rfl, ?_⟩) | (go_at_call 50; (with_reducible refine (galleyref02_in.calls t137 128 191 t142 _ A12.out).mono ?_); rintro e w' ⟨rfl, ⟨nd, rfl⟩⟩))
    go_meet
    case rel => exact ⟨_, (t142), (by first | rfl | (simp; done) | (simp [*]; done)), H', ⟨by first | omega | exact Nat.le_refl _⟩, by repeat (first | exact Drawn0.refl _ | apply Drawn0.step)⟩
   ·replace c11 := Bool.eq_false_iff.mpr c11
    subst c11
    have H1 := H; rw [if_neg (show ¬ (false = true) by decide)] at H1
    clear H; have H := H1; clear H1; have H' := Aside0.mk H; clear H
    go_wp2_with (first | ((with_reducible refine gate_callee (f := 50) rfl ?_); refine goesL_ (some 27) rfl rfl Tryd.func50 (by kernel_rfl) rfl #[.int .i64 t136, .int .i64 194, .int .i64 223] rfl (by (try simp only [List.map_toArray, List.map_cons, List.map_nil]); first | done | rfl | (simp only [List.length_drop, List.length_take]; rfl)) ?_; (with_reducible refine (galleyref02_in.calls t136 194 223 false _ A10.out).mono ?_); rintro e w' ⟨rfl, ⟨nd, rfl⟩⟩; refine ⟨_, rfl, ?_⟩))
    go_meet
    case rel => exact ⟨_, (false), (by first | rfl | (simp; done) | (simp [*]; done)), H', ⟨by first | omega | exact Nat.le_refl _⟩, by repeat (first | exact Drawn0.refl _ | apply Drawn0.step)⟩
  case rest =>
   clear HC9; (try clear c1); (try clear p2); (try clear c3); (try clear c4); (try clear c5); (try clear p6); (try clear c8); (try clear c11)
   obtain ⟨kq, x31_8, rfl, HA, HJ8, ⟨mc8, rfl⟩⟩ := hcut
   cases kq with
   | zero => exact absurd HA.out (by simp [galleyref02_Long.j0])
   | succ kj8 =>
    have H := HA.out; clear HA
    simp only [galleyref02_Long.j0] at H
    by_cases c13 : x31_8 = true
    ·subst c13
     have H1 := H; rw [if_pos rfl] at H1
     clear H; have H := H1; clear H1
     obtain rfl := Option.some.inj H
     go_wp2
     go_ret
     exact ⟨by first | rfl | (simp; done) | (simp [*]; done), by repeat (first | exact Drawn0.refl _ | apply Drawn0.step)⟩
    ·replace c13 := Bool.eq_false_iff.mpr c13
     subst c13
     have H1 := H; rw [if_neg (show ¬ (false = true) by decide)] at H1
     clear H; have H := H1; clear H1
     replace H := Option.bind_eq_some_iff.mp H
     obtain ⟨t143, A140, H⟩ := H
     have A14 := Aside0.mk A140; clear A140; have HC15 := Aside0.mk H; clear H
     go_upto_if 33 with (first | ((with_reducible refine gate_callee (f := 50) rfl ?_); refine goesL_ (some 33) rfl rfl Tryd.func50 (by kernel_rfl) rfl #[.int .i64 t138, .int .i64 128, .int .i64 191] rfl (by (try simp only [List.map_toArray, List.map_cons, List.map_nil]); first | done | rfl | (simp only [List.length_drop, List.length_take]; rfl)) ?_; (with_reducible refine (galleyref02_in.calls t138 128 191 t143 _ A14.out).mono ?_); rintro e w' ⟨rfl, ⟨nd, rfl⟩⟩; refine ⟨_, rfl, ?_⟩))
     (try simp only [Act.put, List.setIfInBounds_toArray, List.set_cons_zero, List.set_cons_succ])
     go_cut [] (fun wc => ∃ (kq : Nat), Aside0 (galleyref02_Long.j1 kq t136 t137 t138 t139 = some r) ∧ Aside0 (kq ≤ kj8) ∧ Drawn0 w wc)
     case first =>
      have H := HC15.out; clear HC15
      by_cases c16 : t143 = true
      ·subst c16
       have H1 := H; rw [if_pos rfl] at H1
       clear H; have H := H1; clear H1
       by_cases c17 : t136 = 224
       ·rw [if_pos c17] at H
        have c17b0 : (t136 == 224) = true := beq_iff_eq.mpr c17
        have c17b1 : (t136 != 224) = false := bne_eq_false_iff_eq.mpr c17
        clear c17
        (first | rw [c17b0] | (simp only [i64_w, i32_w]; rw [c17b0]) | skip)
        replace H := Option.bind_eq_some_iff.mp H
        obtain ⟨t144, A180, H⟩ := H
        have A18 := Aside0.mk A180; clear A180
        by_cases c19 : t144 = true
        ·subst c19
         have H1 := H; rw [if_pos rfl] at H1
         clear H; have H := H1; clear H1
         obtain rfl := Option.some.inj H
         go_wp2_with (first | (go_at_call 50; (with_reducible refine (galleyref02_in.calls t137 160 191 true _ A18.out).mono ?_); rintro e w' ⟨rfl, ⟨nd, rfl⟩⟩))
         go_ret
         exact ⟨by first | rfl | (simp; done) | (simp [*]; done), by repeat (first | exact Drawn0.refl _ | apply Drawn0.step)⟩
        ·replace c19 := Bool.eq_false_iff.mpr c19
         subst c19
         have H1 := H; rw [if_neg (show ¬ (false = true) by decide)] at H1
         clear H; have H := H1; clear H1
         replace H := Option.bind_eq_some_iff.mp H
         obtain ⟨t145, A200, H⟩ := H
         have A20 := Aside0.mk A200; clear A200
         by_cases c21 : t145 = true
         ·subst c21
          have H1 := H; rw [if_pos rfl] at H1
          clear H; have H := H1; clear H1
          replace H := Option.bind_eq_some_iff.mp H
          obtain ⟨t146, A220, H⟩ := H
          have A22 := Aside0.mk A220; clear A220
          by_cases c23 : t146 = true
          ·subst c23
           have H1 := H; rw [if_pos rfl] at H1
           clear H; have H := H1; clear H1
           obtain rfl := Option.some.inj H
           go_wp2_with (first | (go_at_call 50; (with_reducible refine (galleyref02_in.calls t137 160 191 false _ A18.out).mono ?_); rintro e w' ⟨rfl, ⟨nd, rfl⟩⟩) | (go_at_call 50; (with_reducible refine (galleyref02_in.calls t136 225 236 true _ A20.out).mono ?_); rintro e w' ⟨rfl, ⟨nd, rfl⟩⟩) | (go_at_call 50; (with_reducible refine (galleyref02_in.calls t137 128 191 true _ A22.out).mono ?_); rintro e w' ⟨rfl, ⟨nd, rfl⟩⟩))
           go_ret
           exact ⟨by first | rfl | (simp; done) | (simp [*]; done), by repeat (first | exact Drawn0.refl _ | apply Drawn0.step)⟩
          ·replace c23 := Bool.eq_false_iff.mpr c23
           subst c23
           have H1 := H; rw [if_neg (show ¬ (false = true) by decide)] at H1
           clear H; have H := H1; clear H1
           by_cases c24 : t136 = 237
           ·rw [if_pos c24] at H
            have c24b0 : (t136 == 237) = true := beq_iff_eq.mpr c24
            have c24b1 : (t136 != 237) = false := bne_eq_false_iff_eq.mpr c24
            clear c24
            replace H := Option.bind_eq_some_iff.mp H
            obtain ⟨t147, A250, H⟩ := H
            have A25 := Aside0.mk A250; clear A250
            by_cases c26 : t147 = true
            ·subst c26
             have H1 := H; rw [if_pos rfl] at H1
             clear H; have H := H1; clear H1
             obtain rfl := Option.some.inj H
             go_wp2_with (first | (go_at_call 50; (with_reducible refine (galleyref02_in.calls t137 160 191 false _ A18.out).mono ?_); rintro e w' ⟨rfl, ⟨nd, rfl⟩⟩) | (go_at_call 50; (with_reducible refine (galleyref02_in.calls t136 225 236 true _ A20.out).mono ?_); rintro e w' ⟨rfl, ⟨nd, rfl⟩⟩) | (go_at_call 50; (with_reducible refine (galleyref02_in.calls t137 128 191 false _ A22.out).mono ?_); rintro e w' ⟨rfl, ⟨nd, rfl⟩⟩) | (go_at_call 50; (with_reducible refine (galleyref02_in.calls t137 128 159 true _ A25.out).mono ?_); rintro e w' ⟨rfl, ⟨nd, rfl⟩⟩))
             go_ret
             exact ⟨by first | rfl | (simp; done) | (simp [*]; done), by repeat (first | exact Drawn0.refl _ | apply Drawn0.step)⟩
            ·replace c26 := Bool.eq_false_iff.mpr c26
             subst c26
             have H1 := H; rw [if_neg (show ¬ (false = true) by decide)] at H1
             clear H; have H := H1; clear H1
             replace H := Option.bind_eq_some_iff.mp H
             obtain ⟨t148, A270, H⟩ := H
             have A27 := Aside0.mk A270; clear A270
             by_cases c28 : t148 = true
             ·subst c28
              have H1 := H; rw [if_pos rfl] at H1
              clear H; have H := H1; clear H1
              replace H := Option.bind_eq_some_iff.mp H
              obtain ⟨t149, A290, H⟩ := H
              have A29 := Aside0.mk A290; clear A290
              by_cases c30 : t149 = true
              ·subst c30
               have H1 := H; rw [if_pos rfl] at H1
               clear H; have H := H1; clear H1
               obtain rfl := Option.some.inj H
               exact absurd (Option.some.inj (A29.out.symm.trans A22.out)) (by decide)
              ·replace c30 := Bool.eq_false_iff.mpr c30
               subst c30
               have H1 := H; rw [if_neg (show ¬ (false = true) by decide)] at H1
               clear H; have H := H1; clear H1; have H' := Aside0.mk H; clear H
               go_wp2_with (first | (go_at_call 50; (with_reducible refine (galleyref02_in.calls t137 160 191 false _ A18.out).mono ?_); rintro e w' ⟨rfl, ⟨nd, rfl⟩⟩) | (go_at_call 50; (with_reducible refine (galleyref02_in.calls t136 225 236 true _ A20.out).mono ?_); rintro e w' ⟨rfl, ⟨nd, rfl⟩⟩) | (go_at_call 50; (with_reducible refine (galleyref02_in.calls t137 128 191 false _ A22.out).mono ?_); rintro e w' ⟨rfl, ⟨nd, rfl⟩⟩) | (go_at_call 50; (with_reducible refine (galleyref02_in.calls t137 128 159 false _ A25.out).mono ?_); rintro e w' ⟨rfl, ⟨nd, rfl⟩⟩) | (go_at_call 50; (with_reducible refine (galleyref02_in.calls t136 238 239 true _ A27.out).mono ?_); rintro e w' ⟨rfl, ⟨nd, rfl⟩⟩) | (go_at_call 50; (with_reducible refine (galleyref02_in.calls t137 128 191 false _ A29.out).mono ?_); rintro e w' ⟨rfl, ⟨nd, rfl⟩⟩))
               go_meet
               case rel => exact ⟨_, H', ⟨by have := HJ8.out; first | omega | exact Nat.le_refl _⟩, by repeat (first | exact Drawn0.refl _ | apply Drawn0.step)⟩
             ·replace c28 := Bool.eq_false_iff.mpr c28
              subst c28
              have H1 := H; rw [if_neg (show ¬ (false = true) by decide)] at H1
              clear H; have H := H1; clear H1; have H' := Aside0.mk H; clear H
              go_wp2_with (first | (go_at_call 50; (with_reducible refine (galleyref02_in.calls t137 160 191 false _ A18.out).mono ?_); rintro e w' ⟨rfl, ⟨nd, rfl⟩⟩) | (go_at_call 50; (with_reducible refine (galleyref02_in.calls t136 225 236 true _ A20.out).mono ?_); rintro e w' ⟨rfl, ⟨nd, rfl⟩⟩) | (go_at_call 50; (with_reducible refine (galleyref02_in.calls t137 128 191 false _ A22.out).mono ?_); rintro e w' ⟨rfl, ⟨nd, rfl⟩⟩) | (go_at_call 50; (with_reducible refine (galleyref02_in.calls t137 128 159 false _ A25.out).mono ?_); rintro e w' ⟨rfl, ⟨nd, rfl⟩⟩) | (go_at_call 50; (with_reducible refine (galleyref02_in.calls t136 238 239 false _ A27.out).mono ?_); rintro e w' ⟨rfl, ⟨nd, rfl⟩⟩))
              go_meet
              case rel => exact ⟨_, H', ⟨by have := HJ8.out; first | omega | exact Nat.le_refl _⟩, by repeat (first | exact Drawn0.refl _ | apply Drawn0.step)⟩
           ·rw [if_neg c24] at H
            have c24b0 : (t136 == 237) = false := beq_eq_false_iff_ne.mpr c24
            have c24b1 : (t136 != 237) = true := bne_iff_ne.mpr c24
            replace H := Option.bind_eq_some_iff.mp H
            obtain ⟨t150, A310, H⟩ := H
            have A31 := Aside0.mk A310; clear A310
            by_cases c32 : t150 = true
            ·subst c32
             have H1 := H; rw [if_pos rfl] at H1
             clear H; have H := H1; clear H1
             replace H := Option.bind_eq_some_iff.mp H
             obtain ⟨t151, A330, H⟩ := H
             have A33 := Aside0.mk A330; clear A330
             by_cases c34 : t151 = true
             ·subst c34
              have H1 := H; rw [if_pos rfl] at H1
              clear H; have H := H1; clear H1
              obtain rfl := Option.some.inj H
              exact absurd (Option.some.inj (A33.out.symm.trans A22.out)) (by decide)
             ·replace c34 := Bool.eq_false_iff.mpr c34
              subst c34
              have H1 := H; rw [if_neg (show ¬ (false = true) by decide)] at H1
              clear H; have H := H1; clear H1; have H' := Aside0.mk H; clear H
              go_wp2_with (first | (go_at_call 50; (with_reducible refine (galleyref02_in.calls t137 160 191 false _ A18.out).mono ?_); rintro e w' ⟨rfl, ⟨nd, rfl⟩⟩) | (go_at_call 50; (with_reducible refine (galleyref02_in.calls t136 225 236 true _ A20.out).mono ?_); rintro e w' ⟨rfl, ⟨nd, rfl⟩⟩) | (go_at_call 50; (with_reducible refine (galleyref02_in.calls t137 128 191 false _ A22.out).mono ?_); rintro e w' ⟨rfl, ⟨nd, rfl⟩⟩) | (go_at_call 50; (with_reducible refine (galleyref02_in.calls t136 238 239 true _ A31.out).mono ?_); rintro e w' ⟨rfl, ⟨nd, rfl⟩⟩) | (go_at_call 50; (with_reducible refine (galleyref02_in.calls t137 128 191 false _ A33.out).mono ?_); rintro e w' ⟨rfl, ⟨nd, rfl⟩⟩))
              go_meet
              case rel => exact ⟨_, H', ⟨by have := HJ8.out; first | omega | exact Nat.le_refl _⟩, by repeat (first | exact Drawn0.refl _ | apply Drawn0.step)⟩
            ·replace c32 := Bool.eq_false_iff.mpr c32
             subst c32
             have H1 := H; rw [if_neg (show ¬ (false = true) by decide)] at H1
             clear H; have H := H1; clear H1; have H' := Aside0.mk H; clear H
             go_wp2_with (first | (go_at_call 50; (with_reducible refine (galleyref02_in.calls t137 160 191 false _ A18.out).mono ?_); rintro e w' ⟨rfl, ⟨nd, rfl⟩⟩) | (go_at_call 50; (with_reducible refine (galleyref02_in.calls t136 225 236 true _ A20.out).mono ?_); rintro e w' ⟨rfl, ⟨nd, rfl⟩⟩) | (go_at_call 50; (with_reducible refine (galleyref02_in.calls t137 128 191 false _ A22.out).mono ?_); rintro e w' ⟨rfl, ⟨nd, rfl⟩⟩) | (go_at_call 50; (with_reducible refine (galleyref02_in.calls t136 238 239 false _ A31.out).mono ?_); rintro e w' ⟨rfl, ⟨nd, rfl⟩⟩))
             go_meet
             case rel => exact ⟨_, H', ⟨by have := HJ8.out; first | omega | exact Nat.le_refl _⟩, by repeat (first | exact Drawn0.refl _ | apply Drawn0.step)⟩
         ·replace c21 := Bool.eq_false_iff.mpr c21
          subst c21
          have H1 := H; rw [if_neg (show ¬ (false = true) by decide)] at H1
          clear H; have H := H1; clear H1
          by_cases c35 : t136 = 237
          ·rw [if_pos c35] at H
           have c35b0 : (t136 == 237) = true := beq_iff_eq.mpr c35
           have c35b1 : (t136 != 237) = false := bne_eq_false_iff_eq.mpr c35
           clear c35
           replace H := Option.bind_eq_some_iff.mp H
           obtain ⟨t152, A360, H⟩ := H
           have A36 := Aside0.mk A360; clear A360
           by_cases c37 : t152 = true
           ·subst c37
            have H1 := H; rw [if_pos rfl] at H1
            clear H; have H := H1; clear H1
            obtain rfl := Option.some.inj H
            go_wp2_with (first | (go_at_call 50; (with_reducible refine (galleyref02_in.calls t137 160 191 false _ A18.out).mono ?_); rintro e w' ⟨rfl, ⟨nd, rfl⟩⟩) | (go_at_call 50; (with_reducible refine (galleyref02_in.calls t136 225 236 false _ A20.out).mono ?_); rintro e w' ⟨rfl, ⟨nd, rfl⟩⟩) | (go_at_call 50; (with_reducible refine (galleyref02_in.calls t137 128 159 true _ A36.out).mono ?_); rintro e w' ⟨rfl, ⟨nd, rfl⟩⟩))
            go_ret
            exact ⟨by first | rfl | (simp; done) | (simp [*]; done), by repeat (first | exact Drawn0.refl _ | apply Drawn0.step)⟩
           ·replace c37 := Bool.eq_false_iff.mpr c37
            subst c37
            have H1 := H; rw [if_neg (show ¬ (false = true) by decide)] at H1
            clear H; have H := H1; clear H1
            replace H := Option.bind_eq_some_iff.mp H
            obtain ⟨t153, A380, H⟩ := H
            have A38 := Aside0.mk A380; clear A380
            by_cases c39 : t153 = true
            ·subst c39
             have H1 := H; rw [if_pos rfl] at H1
             clear H; have H := H1; clear H1
             replace H := Option.bind_eq_some_iff.mp H
             obtain ⟨t154, A400, H⟩ := H
             have A40 := Aside0.mk A400; clear A400
             by_cases c41 : t154 = true
             ·subst c41
              have H1 := H; rw [if_pos rfl] at H1
              clear H; have H := H1; clear H1
              obtain rfl := Option.some.inj H
              go_wp2_with (first | (go_at_call 50; (with_reducible refine (galleyref02_in.calls t137 160 191 false _ A18.out).mono ?_); rintro e w' ⟨rfl, ⟨nd, rfl⟩⟩) | (go_at_call 50; (with_reducible refine (galleyref02_in.calls t136 225 236 false _ A20.out).mono ?_); rintro e w' ⟨rfl, ⟨nd, rfl⟩⟩) | (go_at_call 50; (with_reducible refine (galleyref02_in.calls t137 128 159 false _ A36.out).mono ?_); rintro e w' ⟨rfl, ⟨nd, rfl⟩⟩) | (go_at_call 50; (with_reducible refine (galleyref02_in.calls t136 238 239 true _ A38.out).mono ?_); rintro e w' ⟨rfl, ⟨nd, rfl⟩⟩) | (go_at_call 50; (with_reducible refine (galleyref02_in.calls t137 128 191 true _ A40.out).mono ?_); rintro e w' ⟨rfl, ⟨nd, rfl⟩⟩))
              go_ret
              exact ⟨by first | rfl | (simp; done) | (simp [*]; done), by repeat (first | exact Drawn0.refl _ | apply Drawn0.step)⟩
             ·replace c41 := Bool.eq_false_iff.mpr c41
              subst c41
              have H1 := H; rw [if_neg (show ¬ (false = true) by decide)] at H1
              clear H; have H := H1; clear H1; have H' := Aside0.mk H; clear H
              go_wp2_with (first | (go_at_call 50; (with_reducible refine (galleyref02_in.calls t137 160 191 false _ A18.out).mono ?_); rintro e w' ⟨rfl, ⟨nd, rfl⟩⟩) | (go_at_call 50; (with_reducible refine (galleyref02_in.calls t136 225 236 false _ A20.out).mono ?_); rintro e w' ⟨rfl, ⟨nd, rfl⟩⟩) | (go_at_call 50; (with_reducible refine (galleyref02_in.calls t137 128 159 false _ A36.out).mono ?_); rintro e w' ⟨rfl, ⟨nd, rfl⟩⟩) | (go_at_call 50; (with_reducible refine (galleyref02_in.calls t136 238 239 true _ A38.out).mono ?_); rintro e w' ⟨rfl, ⟨nd, rfl⟩⟩) | (go_at_call 50; (with_reducible refine (galleyref02_in.calls t137 128 191 false _ A40.out).mono ?_); rintro e w' ⟨rfl, ⟨nd, rfl⟩⟩))
              go_meet
              case rel => exact ⟨_, H', ⟨by have := HJ8.out; first | omega | exact Nat.le_refl _⟩, by repeat (first | exact Drawn0.refl _ | apply Drawn0.step)⟩
            ·replace c39 := Bool.eq_false_iff.mpr c39
             subst c39
             have H1 := H; rw [if_neg (show ¬ (false = true) by decide)] at H1
             clear H; have H := H1; clear H1; have H' := Aside0.mk H; clear H
             go_wp2_with (first | (go_at_call 50; (with_reducible refine (galleyref02_in.calls t137 160 191 false _ A18.out).mono ?_); rintro e w' ⟨rfl, ⟨nd, rfl⟩⟩) | (go_at_call 50; (with_reducible refine (galleyref02_in.calls t136 225 236 false _ A20.out).mono ?_); rintro e w' ⟨rfl, ⟨nd, rfl⟩⟩) | (go_at_call 50; (with_reducible refine (galleyref02_in.calls t137 128 159 false _ A36.out).mono ?_); rintro e w' ⟨rfl, ⟨nd, rfl⟩⟩) | (go_at_call 50; (with_reducible refine (galleyref02_in.calls t136 238 239 false _ A38.out).mono ?_); rintro e w' ⟨rfl, ⟨nd, rfl⟩⟩))
             go_meet
             case rel => exact ⟨_, H', ⟨by have := HJ8.out; first | omega | exact Nat.le_refl _⟩, by repeat (first | exact Drawn0.refl _ | apply Drawn0.step)⟩
          ·rw [if_neg c35] at H
           have c35b0 : (t136 == 237) = false := beq_eq_false_iff_ne.mpr c35
           have c35b1 : (t136 != 237) = true := bne_iff_ne.mpr c35
           replace H := Option.bind_eq_some_iff.mp H
           obtain ⟨t155, A420, H⟩ := H
           have A42 := Aside0.mk A420; clear A420
           by_cases c43 : t155 = true
           ·subst c43
            have H1 := H; rw [if_pos rfl] at H1
            clear H; have H := H1; clear H1
            replace H := Option.bind_eq_some_iff.mp H
            obtain ⟨t156, A440, H⟩ := H
            have A44 := Aside0.mk A440; clear A440
            by_cases c45 : t156 = true
            ·subst c45
             have H1 := H; rw [if_pos rfl] at H1
             clear H; have H := H1; clear H1
             obtain rfl := Option.some.inj H
             go_wp2_with (first | (go_at_call 50; (with_reducible refine (galleyref02_in.calls t137 160 191 false _ A18.out).mono ?_); rintro e w' ⟨rfl, ⟨nd, rfl⟩⟩) | (go_at_call 50; (with_reducible refine (galleyref02_in.calls t136 225 236 false _ A20.out).mono ?_); rintro e w' ⟨rfl, ⟨nd, rfl⟩⟩) | (go_at_call 50; (with_reducible refine (galleyref02_in.calls t136 238 239 true _ A42.out).mono ?_); rintro e w' ⟨rfl, ⟨nd, rfl⟩⟩) | (go_at_call 50; (with_reducible refine (galleyref02_in.calls t137 128 191 true _ A44.out).mono ?_); rintro e w' ⟨rfl, ⟨nd, rfl⟩⟩))
             go_ret
             exact ⟨by first | rfl | (simp; done) | (simp [*]; done), by repeat (first | exact Drawn0.refl _ | apply Drawn0.step)⟩
            ·replace c45 := Bool.eq_false_iff.mpr c45
             subst c45
             have H1 := H; rw [if_neg (show ¬ (false = true) by decide)] at H1
             clear H; have H := H1; clear H1; have H' := Aside0.mk H; clear H
             go_wp2_with (first | (go_at_call 50; (with_reducible refine (galleyref02_in.calls t137 160 191 false _ A18.out).mono ?_); rintro e w' ⟨rfl, ⟨nd, rfl⟩⟩) | (go_at_call 50; (with_reducible refine (galleyref02_in.calls t136 225 236 false _ A20.out).mono ?_); rintro e w' ⟨rfl, ⟨nd, rfl⟩⟩) | (go_at_call 50; (with_reducible refine (galleyref02_in.calls t136 238 239 true _ A42.out).mono ?_); rintro e w' ⟨rfl, ⟨nd, rfl⟩⟩) | (go_at_call 50; (with_reducible refine (galleyref02_in.calls t137 128 191 false _ A44.out).mono ?_); rintro e w' ⟨rfl, ⟨nd, rfl⟩⟩))
             go_meet
             case rel => exact ⟨_, H', ⟨by have := HJ8.out; first | omega | exact Nat.le_refl _⟩, by repeat (first | exact Drawn0.refl _ | apply Drawn0.step)⟩
           ·replace c43 := Bool.eq_false_iff.mpr c43
            subst c43
            have H1 := H; rw [if_neg (show ¬ (false = true) by decide)] at H1
            clear H; have H := H1; clear H1; have H' := Aside0.mk H; clear H
            go_wp2_with (first | (go_at_call 50; (with_reducible refine (galleyref02_in.calls t137 160 191 false _ A18.out).mono ?_); rintro e w' ⟨rfl, ⟨nd, rfl⟩⟩) | (go_at_call 50; (with_reducible refine (galleyref02_in.calls t136 225 236 false _ A20.out).mono ?_); rintro e w' ⟨rfl, ⟨nd, rfl⟩⟩) | (go_at_call 50; (with_reducible refine (galleyref02_in.calls t136 238 239 false _ A42.out).mono ?_); rintro e w' ⟨rfl, ⟨nd, rfl⟩⟩))
            go_meet
            case rel => exact ⟨_, H', ⟨by have := HJ8.out; first | omega | exact Nat.le_refl _⟩, by repeat (first | exact Drawn0.refl _ | apply Drawn0.step)⟩
       ·rw [if_neg c17] at H
        have c17b0 : (t136 == 224) = false := beq_eq_false_iff_ne.mpr c17
        have c17b1 : (t136 != 224) = true := bne_iff_ne.mpr c17
        (first | rw [c17b0] | (simp only [i64_w, i32_w]; rw [c17b0]) | skip)
        replace H := Option.bind_eq_some_iff.mp H
        obtain ⟨t157, A460, H⟩ := H
        have A46 := Aside0.mk A460; clear A460
        by_cases c47 : t157 = true
        ·subst c47
         have H1 := H; rw [if_pos rfl] at H1
         clear H; have H := H1; clear H1
         replace H := Option.bind_eq_some_iff.mp H
         obtain ⟨t158, A480, H⟩ := H
         have A48 := Aside0.mk A480; clear A480
         by_cases c49 : t158 = true
         ·subst c49
          have H1 := H; rw [if_pos rfl] at H1
          clear H; have H := H1; clear H1
          obtain rfl := Option.some.inj H
          go_wp2_with (first | (go_at_call 50; (with_reducible refine (galleyref02_in.calls t136 225 236 true _ A46.out).mono ?_); rintro e w' ⟨rfl, ⟨nd, rfl⟩⟩) | (go_at_call 50; (with_reducible refine (galleyref02_in.calls t137 128 191 true _ A48.out).mono ?_); rintro e w' ⟨rfl, ⟨nd, rfl⟩⟩))
          go_ret
          exact ⟨by first | rfl | (simp; done) | (simp [*]; done), by repeat (first | exact Drawn0.refl _ | apply Drawn0.step)⟩
         ·replace c49 := Bool.eq_false_iff.mpr c49
          subst c49
          have H1 := H; rw [if_neg (show ¬ (false = true) by decide)] at H1
          clear H; have H := H1; clear H1
          by_cases c50 : t136 = 237
          ·rw [if_pos c50] at H
           have c50b0 : (t136 == 237) = true := beq_iff_eq.mpr c50
           have c50b1 : (t136 != 237) = false := bne_eq_false_iff_eq.mpr c50
           clear c50
           replace H := Option.bind_eq_some_iff.mp H
           obtain ⟨t159, A510, H⟩ := H
           have A51 := Aside0.mk A510; clear A510
           by_cases c52 : t159 = true
           ·subst c52
            have H1 := H; rw [if_pos rfl] at H1
            clear H; have H := H1; clear H1
            obtain rfl := Option.some.inj H
            go_wp2_with (first | (go_at_call 50; (with_reducible refine (galleyref02_in.calls t136 225 236 true _ A46.out).mono ?_); rintro e w' ⟨rfl, ⟨nd, rfl⟩⟩) | (go_at_call 50; (with_reducible refine (galleyref02_in.calls t137 128 191 false _ A48.out).mono ?_); rintro e w' ⟨rfl, ⟨nd, rfl⟩⟩) | (go_at_call 50; (with_reducible refine (galleyref02_in.calls t137 128 159 true _ A51.out).mono ?_); rintro e w' ⟨rfl, ⟨nd, rfl⟩⟩))
            go_ret
            exact ⟨by first | rfl | (simp; done) | (simp [*]; done), by repeat (first | exact Drawn0.refl _ | apply Drawn0.step)⟩
           ·replace c52 := Bool.eq_false_iff.mpr c52
            subst c52
            have H1 := H; rw [if_neg (show ¬ (false = true) by decide)] at H1
            clear H; have H := H1; clear H1
            replace H := Option.bind_eq_some_iff.mp H
            obtain ⟨t160, A530, H⟩ := H
            have A53 := Aside0.mk A530; clear A530
            by_cases c54 : t160 = true
            ·subst c54
             have H1 := H; rw [if_pos rfl] at H1
             clear H; have H := H1; clear H1
             replace H := Option.bind_eq_some_iff.mp H
             obtain ⟨t161, A550, H⟩ := H
             have A55 := Aside0.mk A550; clear A550
             by_cases c56 : t161 = true
             ·subst c56
              have H1 := H; rw [if_pos rfl] at H1
              clear H; have H := H1; clear H1
              obtain rfl := Option.some.inj H
              exact absurd (Option.some.inj (A55.out.symm.trans A48.out)) (by decide)
             ·replace c56 := Bool.eq_false_iff.mpr c56
              subst c56
              have H1 := H; rw [if_neg (show ¬ (false = true) by decide)] at H1
              clear H; have H := H1; clear H1; have H' := Aside0.mk H; clear H
              go_wp2_with (first | (go_at_call 50; (with_reducible refine (galleyref02_in.calls t136 225 236 true _ A46.out).mono ?_); rintro e w' ⟨rfl, ⟨nd, rfl⟩⟩) | (go_at_call 50; (with_reducible refine (galleyref02_in.calls t137 128 191 false _ A48.out).mono ?_); rintro e w' ⟨rfl, ⟨nd, rfl⟩⟩) | (go_at_call 50; (with_reducible refine (galleyref02_in.calls t137 128 159 false _ A51.out).mono ?_); rintro e w' ⟨rfl, ⟨nd, rfl⟩⟩) | (go_at_call 50; (with_reducible refine (galleyref02_in.calls t136 238 239 true _ A53.out).mono ?_); rintro e w' ⟨rfl, ⟨nd, rfl⟩⟩) | (go_at_call 50; (with_reducible refine (galleyref02_in.calls t137 128 191 false _ A55.out).mono ?_); rintro e w' ⟨rfl, ⟨nd, rfl⟩⟩))
              go_meet
              case rel => exact ⟨_, H', ⟨by have := HJ8.out; first | omega | exact Nat.le_refl _⟩, by repeat (first | exact Drawn0.refl _ | apply Drawn0.step)⟩
            ·replace c54 := Bool.eq_false_iff.mpr c54
             subst c54
             have H1 := H; rw [if_neg (show ¬ (false = true) by decide)] at H1
             clear H; have H := H1; clear H1; have H' := Aside0.mk H; clear H
             go_wp2_with (first | (go_at_call 50; (with_reducible refine (galleyref02_in.calls t136 225 236 true _ A46.out).mono ?_); rintro e w' ⟨rfl, ⟨nd, rfl⟩⟩) | (go_at_call 50; (with_reducible refine (galleyref02_in.calls t137 128 191 false _ A48.out).mono ?_); rintro e w' ⟨rfl, ⟨nd, rfl⟩⟩) | (go_at_call 50; (with_reducible refine (galleyref02_in.calls t137 128 159 false _ A51.out).mono ?_); rintro e w' ⟨rfl, ⟨nd, rfl⟩⟩) | (go_at_call 50; (with_reducible refine (galleyref02_in.calls t136 238 239 false _ A53.out).mono ?_); rintro e w' ⟨rfl, ⟨nd, rfl⟩⟩))
             go_meet
             case rel => exact ⟨_, H', ⟨by have := HJ8.out; first | omega | exact Nat.le_refl _⟩, by repeat (first | exact Drawn0.refl _ | apply Drawn0.step)⟩
          ·rw [if_neg c50] at H
           have c50b0 : (t136 == 237) = false := beq_eq_false_iff_ne.mpr c50
           have c50b1 : (t136 != 237) = true := bne_iff_ne.mpr c50
           replace H := Option.bind_eq_some_iff.mp H
           obtain ⟨t162, A570, H⟩ := H
           have A57 := Aside0.mk A570; clear A570
           by_cases c58 : t162 = true
           ·subst c58
            have H1 := H; rw [if_pos rfl] at H1
            clear H; have H := H1; clear H1
            replace H := Option.bind_eq_some_iff.mp H
            obtain ⟨t163, A590, H⟩ := H
            have A59 := Aside0.mk A590; clear A590
            by_cases c60 : t163 = true
            ·subst c60
             have H1 := H; rw [if_pos rfl] at H1
             clear H; have H := H1; clear H1
             obtain rfl := Option.some.inj H
             exact absurd (Option.some.inj (A59.out.symm.trans A48.out)) (by decide)
            ·replace c60 := Bool.eq_false_iff.mpr c60
             subst c60
             have H1 := H; rw [if_neg (show ¬ (false = true) by decide)] at H1
             clear H; have H := H1; clear H1; have H' := Aside0.mk H; clear H
             go_wp2_with (first | (go_at_call 50; (with_reducible refine (galleyref02_in.calls t136 225 236 true _ A46.out).mono ?_); rintro e w' ⟨rfl, ⟨nd, rfl⟩⟩) | (go_at_call 50; (with_reducible refine (galleyref02_in.calls t137 128 191 false _ A48.out).mono ?_); rintro e w' ⟨rfl, ⟨nd, rfl⟩⟩) | (go_at_call 50; (with_reducible refine (galleyref02_in.calls t136 238 239 true _ A57.out).mono ?_); rintro e w' ⟨rfl, ⟨nd, rfl⟩⟩) | (go_at_call 50; (with_reducible refine (galleyref02_in.calls t137 128 191 false _ A59.out).mono ?_); rintro e w' ⟨rfl, ⟨nd, rfl⟩⟩))
             go_meet
             case rel => exact ⟨_, H', ⟨by have := HJ8.out; first | omega | exact Nat.le_refl _⟩, by repeat (first | exact Drawn0.refl _ | apply Drawn0.step)⟩
           ·replace c58 := Bool.eq_false_iff.mpr c58
            subst c58
            have H1 := H; rw [if_neg (show ¬ (false = true) by decide)] at H1
            clear H; have H := H1; clear H1; have H' := Aside0.mk H; clear H
            go_wp2_with (first | (go_at_call 50; (with_reducible refine (galleyref02_in.calls t136 225 236 true _ A46.out).mono ?_); rintro e w' ⟨rfl, ⟨nd, rfl⟩⟩) | (go_at_call 50; (with_reducible refine (galleyref02_in.calls t137 128 191 false _ A48.out).mono ?_); rintro e w' ⟨rfl, ⟨nd, rfl⟩⟩) | (go_at_call 50; (with_reducible refine (galleyref02_in.calls t136 238 239 false _ A57.out).mono ?_); rintro e w' ⟨rfl, ⟨nd, rfl⟩⟩))
            go_meet
            case rel => exact ⟨_, H', ⟨by have := HJ8.out; first | omega | exact Nat.le_refl _⟩, by repeat (first | exact Drawn0.refl _ | apply Drawn0.step)⟩
        ·replace c47 := Bool.eq_false_iff.mpr c47
         subst c47
         have H1 := H; rw [if_neg (show ¬ (false = true) by decide)] at H1
         clear H; have H := H1; clear H1
         by_cases c61 : t136 = 237
         ·rw [if_pos c61] at H
          have c61b0 : (t136 == 237) = true := beq_iff_eq.mpr c61
          have c61b1 : (t136 != 237) = false := bne_eq_false_iff_eq.mpr c61
          clear c61
          replace H := Option.bind_eq_some_iff.mp H
          obtain ⟨t164, A620, H⟩ := H
          have A62 := Aside0.mk A620; clear A620
          by_cases c63 : t164 = true
          ·subst c63
           have H1 := H; rw [if_pos rfl] at H1
           clear H; have H := H1; clear H1
           obtain rfl := Option.some.inj H
           go_wp2_with (first | (go_at_call 50; (with_reducible refine (galleyref02_in.calls t136 225 236 false _ A46.out).mono ?_); rintro e w' ⟨rfl, ⟨nd, rfl⟩⟩) | (go_at_call 50; (with_reducible refine (galleyref02_in.calls t137 128 159 true _ A62.out).mono ?_); rintro e w' ⟨rfl, ⟨nd, rfl⟩⟩))
           go_ret
           exact ⟨by first | rfl | (simp; done) | (simp [*]; done), by repeat (first | exact Drawn0.refl _ | apply Drawn0.step)⟩
          ·replace c63 := Bool.eq_false_iff.mpr c63
           subst c63
           have H1 := H; rw [if_neg (show ¬ (false = true) by decide)] at H1
           clear H; have H := H1; clear H1
           replace H := Option.bind_eq_some_iff.mp H
           obtain ⟨t165, A640, H⟩ := H
           have A64 := Aside0.mk A640; clear A640
           by_cases c65 : t165 = true
           ·subst c65
            have H1 := H; rw [if_pos rfl] at H1
            clear H; have H := H1; clear H1
            replace H := Option.bind_eq_some_iff.mp H
            obtain ⟨t166, A660, H⟩ := H
            have A66 := Aside0.mk A660; clear A660
            by_cases c67 : t166 = true
            ·subst c67
             have H1 := H; rw [if_pos rfl] at H1
             clear H; have H := H1; clear H1
             obtain rfl := Option.some.inj H
             go_wp2_with (first | (go_at_call 50; (with_reducible refine (galleyref02_in.calls t136 225 236 false _ A46.out).mono ?_); rintro e w' ⟨rfl, ⟨nd, rfl⟩⟩) | (go_at_call 50; (with_reducible refine (galleyref02_in.calls t137 128 159 false _ A62.out).mono ?_); rintro e w' ⟨rfl, ⟨nd, rfl⟩⟩) | (go_at_call 50; (with_reducible refine (galleyref02_in.calls t136 238 239 true _ A64.out).mono ?_); rintro e w' ⟨rfl, ⟨nd, rfl⟩⟩) | (go_at_call 50; (with_reducible refine (galleyref02_in.calls t137 128 191 true _ A66.out).mono ?_); rintro e w' ⟨rfl, ⟨nd, rfl⟩⟩))
             go_ret
             exact ⟨by first | rfl | (simp; done) | (simp [*]; done), by repeat (first | exact Drawn0.refl _ | apply Drawn0.step)⟩
            ·replace c67 := Bool.eq_false_iff.mpr c67
             subst c67
             have H1 := H; rw [if_neg (show ¬ (false = true) by decide)] at H1
             clear H; have H := H1; clear H1; have H' := Aside0.mk H; clear H
             go_wp2_with (first | (go_at_call 50; (with_reducible refine (galleyref02_in.calls t136 225 236 false _ A46.out).mono ?_); rintro e w' ⟨rfl, ⟨nd, rfl⟩⟩) | (go_at_call 50; (with_reducible refine (galleyref02_in.calls t137 128 159 false _ A62.out).mono ?_); rintro e w' ⟨rfl, ⟨nd, rfl⟩⟩) | (go_at_call 50; (with_reducible refine (galleyref02_in.calls t136 238 239 true _ A64.out).mono ?_); rintro e w' ⟨rfl, ⟨nd, rfl⟩⟩) | (go_at_call 50; (with_reducible refine (galleyref02_in.calls t137 128 191 false _ A66.out).mono ?_); rintro e w' ⟨rfl, ⟨nd, rfl⟩⟩))
             go_meet
             case rel => exact ⟨_, H', ⟨by have := HJ8.out; first | omega | exact Nat.le_refl _⟩, by repeat (first | exact Drawn0.refl _ | apply Drawn0.step)⟩
           ·replace c65 := Bool.eq_false_iff.mpr c65
            subst c65
            have H1 := H; rw [if_neg (show ¬ (false = true) by decide)] at H1
            clear H; have H := H1; clear H1; have H' := Aside0.mk H; clear H
            go_wp2_with (first | (go_at_call 50; (with_reducible refine (galleyref02_in.calls t136 225 236 false _ A46.out).mono ?_); rintro e w' ⟨rfl, ⟨nd, rfl⟩⟩) | (go_at_call 50; (with_reducible refine (galleyref02_in.calls t137 128 159 false _ A62.out).mono ?_); rintro e w' ⟨rfl, ⟨nd, rfl⟩⟩) | (go_at_call 50; (with_reducible refine (galleyref02_in.calls t136 238 239 false _ A64.out).mono ?_); rintro e w' ⟨rfl, ⟨nd, rfl⟩⟩))
            go_meet
            case rel => exact ⟨_, H', ⟨by have := HJ8.out; first | omega | exact Nat.le_refl _⟩, by repeat (first | exact Drawn0.refl _ | apply Drawn0.step)⟩
         ·rw [if_neg c61] at H
          have c61b0 : (t136 == 237) = false := beq_eq_false_iff_ne.mpr c61
          have c61b1 : (t136 != 237) = true := bne_iff_ne.mpr c61
          replace H := Option.bind_eq_some_iff.mp H
          obtain ⟨t167, A680, H⟩ := H
          have A68 := Aside0.mk A680; clear A680
          by_cases c69 : t167 = true
          ·subst c69
           have H1 := H; rw [if_pos rfl] at H1
           clear H; have H := H1; clear H1
           replace H := Option.bind_eq_some_iff.mp H
           obtain ⟨t168, A700, H⟩ := H
           have A70 := Aside0.mk A700; clear A700
           by_cases c71 : t168 = true
           ·subst c71
            have H1 := H; rw [if_pos rfl] at H1
            clear H; have H := H1; clear H1
            obtain rfl := Option.some.inj H
            go_wp2_with (first | (go_at_call 50; (with_reducible refine (galleyref02_in.calls t136 225 236 false _ A46.out).mono ?_); rintro e w' ⟨rfl, ⟨nd, rfl⟩⟩) | (go_at_call 50; (with_reducible refine (galleyref02_in.calls t136 238 239 true _ A68.out).mono ?_); rintro e w' ⟨rfl, ⟨nd, rfl⟩⟩) | (go_at_call 50; (with_reducible refine (galleyref02_in.calls t137 128 191 true _ A70.out).mono ?_); rintro e w' ⟨rfl, ⟨nd, rfl⟩⟩))
            go_ret
            exact ⟨by first | rfl | (simp; done) | (simp [*]; done), by repeat (first | exact Drawn0.refl _ | apply Drawn0.step)⟩
           ·replace c71 := Bool.eq_false_iff.mpr c71
            subst c71
            have H1 := H; rw [if_neg (show ¬ (false = true) by decide)] at H1
            clear H; have H := H1; clear H1; have H' := Aside0.mk H; clear H
            go_wp2_with (first | (go_at_call 50; (with_reducible refine (galleyref02_in.calls t136 225 236 false _ A46.out).mono ?_); rintro e w' ⟨rfl, ⟨nd, rfl⟩⟩) | (go_at_call 50; (with_reducible refine (galleyref02_in.calls t136 238 239 true _ A68.out).mono ?_); rintro e w' ⟨rfl, ⟨nd, rfl⟩⟩) | (go_at_call 50; (with_reducible refine (galleyref02_in.calls t137 128 191 false _ A70.out).mono ?_); rintro e w' ⟨rfl, ⟨nd, rfl⟩⟩))
            go_meet
            case rel => exact ⟨_, H', ⟨by have := HJ8.out; first | omega | exact Nat.le_refl _⟩, by repeat (first | exact Drawn0.refl _ | apply Drawn0.step)⟩
          ·replace c69 := Bool.eq_false_iff.mpr c69
           subst c69
           have H1 := H; rw [if_neg (show ¬ (false = true) by decide)] at H1
           clear H; have H := H1; clear H1; have H' := Aside0.mk H; clear H
           go_wp2_with (first | (go_at_call 50; (with_reducible refine (galleyref02_in.calls t136 225 236 false _ A46.out).mono ?_); rintro e w' ⟨rfl, ⟨nd, rfl⟩⟩) | (go_at_call 50; (with_reducible refine (galleyref02_in.calls t136 238 239 false _ A68.out).mono ?_); rintro e w' ⟨rfl, ⟨nd, rfl⟩⟩))
           go_meet
           case rel => exact ⟨_, H', ⟨by have := HJ8.out; first | omega | exact Nat.le_refl _⟩, by repeat (first | exact Drawn0.refl _ | apply Drawn0.step)⟩
      ·replace c16 := Bool.eq_false_iff.mpr c16
       subst c16
       have H1 := H; rw [if_neg (show ¬ (false = true) by decide)] at H1
       clear H; have H := H1; clear H1; have H' := Aside0.mk H; clear H
       go_wp2
       go_meet
       case rel => exact ⟨_, H', ⟨by have := HJ8.out; first | omega | exact Nat.le_refl _⟩, by repeat (first | exact Drawn0.refl _ | apply Drawn0.step)⟩
     case rest =>
      clear HC15; (try clear c1); (try clear c2); (try clear p2); (try clear c3); (try clear c4); (try clear c5); (try clear c6); (try clear c7); (try clear c16); (try clear c17); (try clear c17b0); (try clear c17b1); (try clear c19); (try clear c21); (try clear c23); (try clear c24); (try clear c24b0); (try clear c24b1); (try clear c26); (try clear c28); (try clear c30); (try clear c32); (try clear c34); (try clear c35); (try clear c35b0); (try clear c35b1); (try clear c37); (try clear c39); (try clear c41); (try clear c43); (try clear c45); (try clear c47); (try clear c49); (try clear c50); (try clear c50b0); (try clear c50b1); (try clear c52); (try clear c54); (try clear c56); (try clear c58); (try clear c60); (try clear c61); (try clear c61b0); (try clear c61b1); (try clear c63); (try clear c65); (try clear c67); (try clear c69); (try clear c71)
      obtain ⟨kq, HA, HJ14, ⟨mc14, rfl⟩⟩ := hcut
      cases kq with
      | zero => exact absurd HA.out (by simp [galleyref02_Long.j1])
      | succ kj14 =>
       have H := HA.out; clear HA
       simp only [galleyref02_Long.j1] at H
       have HC72 := Aside0.mk H; clear H
       go_upto_region 9 with (fail)
       go_cut [69] (fun v69 wc => ∃ (kq : Nat) (x69_71 : Bool), v69 = .bool x69_71 ∧ Aside0 (galleyref02_Long.j2 kq t136 t137 x69_71 = some r) ∧ Aside0 (kq ≤ kj14) ∧ Drawn0 w wc)
       case first =>
        have H := HC72.out; clear HC72
        replace H := Option.bind_eq_some_iff.mp H
        obtain ⟨t169, A730, H⟩ := H
        have A73 := Aside0.mk A730; clear A730
        by_cases c74 : t169 = true
        ·subst c74
         have H1 := H; rw [if_pos rfl] at H1
         clear H; have H := H1; clear H1
         replace H := Option.bind_eq_some_iff.mp H
         obtain ⟨t170, A750, H⟩ := H
         have A75 := Aside0.mk A750; clear A750; have H' := Aside0.mk H; clear H
         go_wp2_with (first | ((with_reducible refine gate_callee (f := 50) rfl ?_); refine goesL_ (some 65) rfl rfl Tryd.func50 (by kernel_rfl) rfl #[.int .i64 t138, .int .i64 128, .int .i64 191] rfl (by (try simp only [List.map_toArray, List.map_cons, List.map_nil]); first | done | rfl | (simp only [List.length_drop, List.length_take]; rfl)) ?_; (with_reducible refine (galleyref02_in.calls t138 128 191 true _ A73.out).mono ?_); rintro e w' ⟨rfl, ⟨nd, rfl⟩⟩; refine ⟨_, rfl, ?_⟩) | (go_at_call 50; (with_reducible refine (galleyref02_in.calls t139 128 191 t170 _ A75.out).mono ?_); rintro e w' ⟨rfl, ⟨nd, rfl⟩⟩))
         go_meet
         case rel => exact ⟨_, (t170), (by first | rfl | (simp; done) | (simp [*]; done)), H', ⟨by have := HJ8.out; have := HJ14.out; first | omega | exact Nat.le_refl _⟩, by repeat (first | exact Drawn0.refl _ | apply Drawn0.step)⟩
        ·replace c74 := Bool.eq_false_iff.mpr c74
         subst c74
         have H1 := H; rw [if_neg (show ¬ (false = true) by decide)] at H1
         clear H; have H := H1; clear H1; have H' := Aside0.mk H; clear H
         go_wp2_with (first | ((with_reducible refine gate_callee (f := 50) rfl ?_); refine goesL_ (some 65) rfl rfl Tryd.func50 (by kernel_rfl) rfl #[.int .i64 t138, .int .i64 128, .int .i64 191] rfl (by (try simp only [List.map_toArray, List.map_cons, List.map_nil]); first | done | rfl | (simp only [List.length_drop, List.length_take]; rfl)) ?_; (with_reducible refine (galleyref02_in.calls t138 128 191 false _ A73.out).mono ?_); rintro e w' ⟨rfl, ⟨nd, rfl⟩⟩; refine ⟨_, rfl, ?_⟩))
         go_meet
         case rel => exact ⟨_, (false), (by first | rfl | (simp; done) | (simp [*]; done)), H', ⟨by have := HJ8.out; have := HJ14.out; first | omega | exact Nat.le_refl _⟩, by repeat (first | exact Drawn0.refl _ | apply Drawn0.step)⟩
       case rest =>
        clear HC72; (try clear c1); (try clear c2); (try clear p2); (try clear c3); (try clear c4); (try clear c5); (try clear c6); (try clear c7); (try clear c14); (try clear c16); (try clear c17); (try clear c17b0); (try clear c17b1); (try clear c19); (try clear c21); (try clear c23); (try clear c24); (try clear c24b0); (try clear c24b1); (try clear c26); (try clear c28); (try clear c30); (try clear c32); (try clear c34); (try clear c35); (try clear c35b0); (try clear c35b1); (try clear c37); (try clear c39); (try clear c41); (try clear c43); (try clear c45); (try clear c47); (try clear c49); (try clear c50); (try clear c50b0); (try clear c50b1); (try clear c52); (try clear c54); (try clear c56); (try clear c58); (try clear c60); (try clear c61); (try clear c61b0); (try clear c61b1); (try clear c63); (try clear c65); (try clear c67); (try clear c69); (try clear c71); (try clear c74); (try clear p2)
        obtain ⟨kq, x69_71, rfl, HA, HJ71, ⟨mc71, rfl⟩⟩ := hcut
        cases kq with
        | zero => exact absurd HA.out (by simp [galleyref02_Long.j2])
        | succ kj71 =>
         have H := HA.out; clear HA
         simp only [galleyref02_Long.j2] at H
         by_cases c76 : x69_71 = true
         ·subst c76
          have H1 := H; rw [if_pos rfl] at H1
          clear H; have H := H1; clear H1
          by_cases c77 : t136 = 240
          ·rw [if_pos c77] at H
           have c77b0 : (t136 == 240) = true := beq_iff_eq.mpr c77
           have c77b1 : (t136 != 240) = false := bne_eq_false_iff_eq.mpr c77
           clear c77
           replace H := Option.bind_eq_some_iff.mp H
           obtain ⟨t171, A780, H⟩ := H
           have A78 := Aside0.mk A780; clear A780
           by_cases c79 : t171 = true
           ·subst c79
            have H1 := H; rw [if_pos rfl] at H1
            clear H; have H := H1; clear H1
            obtain rfl := Option.some.inj H
            go_wp2_with (first | (go_at_call 50; (with_reducible refine (galleyref02_in.calls t137 144 191 true _ A78.out).mono ?_); rintro e w' ⟨rfl, ⟨nd, rfl⟩⟩))
            go_ret
            exact ⟨by first | rfl | (simp; done) | (simp [*]; done), by repeat (first | exact Drawn0.refl _ | apply Drawn0.step)⟩
           ·replace c79 := Bool.eq_false_iff.mpr c79
            subst c79
            have H1 := H; rw [if_neg (show ¬ (false = true) by decide)] at H1
            clear H; have H := H1; clear H1
            replace H := Option.bind_eq_some_iff.mp H
            obtain ⟨t172, A800, H⟩ := H
            have A80 := Aside0.mk A800; clear A800
            by_cases c81 : t172 = true
            ·subst c81
             have H1 := H; rw [if_pos rfl] at H1
             clear H; have H := H1; clear H1
             replace H := Option.bind_eq_some_iff.mp H
             obtain ⟨t173, A820, H⟩ := H
             have A82 := Aside0.mk A820; clear A820
             by_cases c83 : t173 = true
             ·subst c83
              have H1 := H; rw [if_pos rfl] at H1
              clear H; have H := H1; clear H1
              obtain rfl := Option.some.inj H
              go_wp2_with (first | (go_at_call 50; (with_reducible refine (galleyref02_in.calls t137 144 191 false _ A78.out).mono ?_); rintro e w' ⟨rfl, ⟨nd, rfl⟩⟩) | (go_at_call 50; (with_reducible refine (galleyref02_in.calls t136 241 243 true _ A80.out).mono ?_); rintro e w' ⟨rfl, ⟨nd, rfl⟩⟩) | (go_at_call 50; (with_reducible refine (galleyref02_in.calls t137 128 191 true _ A82.out).mono ?_); rintro e w' ⟨rfl, ⟨nd, rfl⟩⟩))
              go_ret
              exact ⟨by first | rfl | (simp; done) | (simp [*]; done), by repeat (first | exact Drawn0.refl _ | apply Drawn0.step)⟩
             ·replace c83 := Bool.eq_false_iff.mpr c83
              subst c83
              have H1 := H; rw [if_neg (show ¬ (false = true) by decide)] at H1
              clear H; have H := H1; clear H1
              by_cases c84 : t136 = 244
              ·rw [if_pos c84] at H
               have c84b0 : (t136 == 244) = true := beq_iff_eq.mpr c84
               have c84b1 : (t136 != 244) = false := bne_eq_false_iff_eq.mpr c84
               clear c84
               replace H := Option.bind_eq_some_iff.mp H
               obtain ⟨t174, A850, H⟩ := H
               have A85 := Aside0.mk A850; clear A850
               by_cases c86 : t174 = true
               ·subst c86
                have H1 := H; rw [if_pos rfl] at H1
                clear H; have H := H1; clear H1
                obtain rfl := Option.some.inj H
                go_wp2_with (first | (go_at_call 50; (with_reducible refine (galleyref02_in.calls t137 144 191 false _ A78.out).mono ?_); rintro e w' ⟨rfl, ⟨nd, rfl⟩⟩) | (go_at_call 50; (with_reducible refine (galleyref02_in.calls t136 241 243 true _ A80.out).mono ?_); rintro e w' ⟨rfl, ⟨nd, rfl⟩⟩) | (go_at_call 50; (with_reducible refine (galleyref02_in.calls t137 128 191 false _ A82.out).mono ?_); rintro e w' ⟨rfl, ⟨nd, rfl⟩⟩) | (go_at_call 50; (with_reducible refine (galleyref02_in.calls t137 128 143 true _ A85.out).mono ?_); rintro e w' ⟨rfl, ⟨nd, rfl⟩⟩))
                go_ret
                exact ⟨by first | rfl | (simp; done) | (simp [*]; done), by repeat (first | exact Drawn0.refl _ | apply Drawn0.step)⟩
               ·replace c86 := Bool.eq_false_iff.mpr c86
                subst c86
                have H1 := H; rw [if_neg (show ¬ (false = true) by decide)] at H1
                clear H; have H := H1; clear H1
                obtain rfl := Option.some.inj H
                go_wp2_with (first | (go_at_call 50; (with_reducible refine (galleyref02_in.calls t137 144 191 false _ A78.out).mono ?_); rintro e w' ⟨rfl, ⟨nd, rfl⟩⟩) | (go_at_call 50; (with_reducible refine (galleyref02_in.calls t136 241 243 true _ A80.out).mono ?_); rintro e w' ⟨rfl, ⟨nd, rfl⟩⟩) | (go_at_call 50; (with_reducible refine (galleyref02_in.calls t137 128 191 false _ A82.out).mono ?_); rintro e w' ⟨rfl, ⟨nd, rfl⟩⟩) | (go_at_call 50; (with_reducible refine (galleyref02_in.calls t137 128 143 false _ A85.out).mono ?_); rintro e w' ⟨rfl, ⟨nd, rfl⟩⟩))
                go_ret
                exact ⟨by first | rfl | (simp; done) | (simp [*]; done), by repeat (first | exact Drawn0.refl _ | apply Drawn0.step)⟩
              ·rw [if_neg c84] at H
               have c84b0 : (t136 == 244) = false := beq_eq_false_iff_ne.mpr c84
               have c84b1 : (t136 != 244) = true := bne_iff_ne.mpr c84
               obtain rfl := Option.some.inj H
               go_wp2_with (first | (go_at_call 50; (with_reducible refine (galleyref02_in.calls t137 144 191 false _ A78.out).mono ?_); rintro e w' ⟨rfl, ⟨nd, rfl⟩⟩) | (go_at_call 50; (with_reducible refine (galleyref02_in.calls t136 241 243 true _ A80.out).mono ?_); rintro e w' ⟨rfl, ⟨nd, rfl⟩⟩) | (go_at_call 50; (with_reducible refine (galleyref02_in.calls t137 128 191 false _ A82.out).mono ?_); rintro e w' ⟨rfl, ⟨nd, rfl⟩⟩))
               go_ret
               exact ⟨by first | rfl | (simp; done) | (simp [*]; done), by repeat (first | exact Drawn0.refl _ | apply Drawn0.step)⟩
            ·replace c81 := Bool.eq_false_iff.mpr c81
             subst c81
             have H1 := H; rw [if_neg (show ¬ (false = true) by decide)] at H1
             clear H; have H := H1; clear H1
             by_cases c87 : t136 = 244
             ·rw [if_pos c87] at H
              have c87b0 : (t136 == 244) = true := beq_iff_eq.mpr c87
              have c87b1 : (t136 != 244) = false := bne_eq_false_iff_eq.mpr c87
              clear c87
              replace H := Option.bind_eq_some_iff.mp H
              obtain ⟨t175, A880, H⟩ := H
              have A88 := Aside0.mk A880; clear A880
              by_cases c89 : t175 = true
              ·subst c89
               have H1 := H; rw [if_pos rfl] at H1
               clear H; have H := H1; clear H1
               obtain rfl := Option.some.inj H
               go_wp2_with (first | (go_at_call 50; (with_reducible refine (galleyref02_in.calls t137 144 191 false _ A78.out).mono ?_); rintro e w' ⟨rfl, ⟨nd, rfl⟩⟩) | (go_at_call 50; (with_reducible refine (galleyref02_in.calls t136 241 243 false _ A80.out).mono ?_); rintro e w' ⟨rfl, ⟨nd, rfl⟩⟩) | (go_at_call 50; (with_reducible refine (galleyref02_in.calls t137 128 143 true _ A88.out).mono ?_); rintro e w' ⟨rfl, ⟨nd, rfl⟩⟩))
               go_ret
               exact ⟨by first | rfl | (simp; done) | (simp [*]; done), by repeat (first | exact Drawn0.refl _ | apply Drawn0.step)⟩
              ·replace c89 := Bool.eq_false_iff.mpr c89
               subst c89
               have H1 := H; rw [if_neg (show ¬ (false = true) by decide)] at H1
               clear H; have H := H1; clear H1
               obtain rfl := Option.some.inj H
               go_wp2_with (first | (go_at_call 50; (with_reducible refine (galleyref02_in.calls t137 144 191 false _ A78.out).mono ?_); rintro e w' ⟨rfl, ⟨nd, rfl⟩⟩) | (go_at_call 50; (with_reducible refine (galleyref02_in.calls t136 241 243 false _ A80.out).mono ?_); rintro e w' ⟨rfl, ⟨nd, rfl⟩⟩) | (go_at_call 50; (with_reducible refine (galleyref02_in.calls t137 128 143 false _ A88.out).mono ?_); rintro e w' ⟨rfl, ⟨nd, rfl⟩⟩))
               go_ret
               exact ⟨by first | rfl | (simp; done) | (simp [*]; done), by repeat (first | exact Drawn0.refl _ | apply Drawn0.step)⟩
             ·rw [if_neg c87] at H
              have c87b0 : (t136 == 244) = false := beq_eq_false_iff_ne.mpr c87
              have c87b1 : (t136 != 244) = true := bne_iff_ne.mpr c87
              obtain rfl := Option.some.inj H
              go_wp2_with (first | (go_at_call 50; (with_reducible refine (galleyref02_in.calls t137 144 191 false _ A78.out).mono ?_); rintro e w' ⟨rfl, ⟨nd, rfl⟩⟩) | (go_at_call 50; (with_reducible refine (galleyref02_in.calls t136 241 243 false _ A80.out).mono ?_); rintro e w' ⟨rfl, ⟨nd, rfl⟩⟩))
              go_ret
              exact ⟨by first | rfl | (simp; done) | (simp [*]; done), by repeat (first | exact Drawn0.refl _ | apply Drawn0.step)⟩
          ·rw [if_neg c77] at H
           have c77b0 : (t136 == 240) = false := beq_eq_false_iff_ne.mpr c77
           have c77b1 : (t136 != 240) = true := bne_iff_ne.mpr c77
           replace H := Option.bind_eq_some_iff.mp H
           obtain ⟨t176, A900, H⟩ := H
           have A90 := Aside0.mk A900; clear A900
           by_cases c91 : t176 = true
           ·subst c91
            have H1 := H; rw [if_pos rfl] at H1
            clear H; have H := H1; clear H1
            replace H := Option.bind_eq_some_iff.mp H
            obtain ⟨t177, A920, H⟩ := H
            have A92 := Aside0.mk A920; clear A920
            by_cases c93 : t177 = true
            ·subst c93
             have H1 := H; rw [if_pos rfl] at H1
             clear H; have H := H1; clear H1
             obtain rfl := Option.some.inj H
             go_wp2_with (first | (go_at_call 50; (with_reducible refine (galleyref02_in.calls t136 241 243 true _ A90.out).mono ?_); rintro e w' ⟨rfl, ⟨nd, rfl⟩⟩) | (go_at_call 50; (with_reducible refine (galleyref02_in.calls t137 128 191 true _ A92.out).mono ?_); rintro e w' ⟨rfl, ⟨nd, rfl⟩⟩))
             go_ret
             exact ⟨by first | rfl | (simp; done) | (simp [*]; done), by repeat (first | exact Drawn0.refl _ | apply Drawn0.step)⟩
            ·replace c93 := Bool.eq_false_iff.mpr c93
             subst c93
             have H1 := H; rw [if_neg (show ¬ (false = true) by decide)] at H1
             clear H; have H := H1; clear H1
             by_cases c94 : t136 = 244
             ·rw [if_pos c94] at H
              have c94b0 : (t136 == 244) = true := beq_iff_eq.mpr c94
              have c94b1 : (t136 != 244) = false := bne_eq_false_iff_eq.mpr c94
              clear c94
              replace H := Option.bind_eq_some_iff.mp H
              obtain ⟨t178, A950, H⟩ := H
              have A95 := Aside0.mk A950; clear A950
              by_cases c96 : t178 = true
              ·subst c96
               have H1 := H; rw [if_pos rfl] at H1
               clear H; have H := H1; clear H1
               obtain rfl := Option.some.inj H
               go_wp2_with (first | (go_at_call 50; (with_reducible refine (galleyref02_in.calls t136 241 243 true _ A90.out).mono ?_); rintro e w' ⟨rfl, ⟨nd, rfl⟩⟩) | (go_at_call 50; (with_reducible refine (galleyref02_in.calls t137 128 191 false _ A92.out).mono ?_); rintro e w' ⟨rfl, ⟨nd, rfl⟩⟩) | (go_at_call 50; (with_reducible refine (galleyref02_in.calls t137 128 143 true _ A95.out).mono ?_); rintro e w' ⟨rfl, ⟨nd, rfl⟩⟩))
               go_ret
               exact ⟨by first | rfl | (simp; done) | (simp [*]; done), by repeat (first | exact Drawn0.refl _ | apply Drawn0.step)⟩
              ·replace c96 := Bool.eq_false_iff.mpr c96
               subst c96
               have H1 := H; rw [if_neg (show ¬ (false = true) by decide)] at H1
               clear H; have H := H1; clear H1
               obtain rfl := Option.some.inj H
               go_wp2_with (first | (go_at_call 50; (with_reducible refine (galleyref02_in.calls t136 241 243 true _ A90.out).mono ?_); rintro e w' ⟨rfl, ⟨nd, rfl⟩⟩) | (go_at_call 50; (with_reducible refine (galleyref02_in.calls t137 128 191 false _ A92.out).mono ?_); rintro e w' ⟨rfl, ⟨nd, rfl⟩⟩) | (go_at_call 50; (with_reducible refine (galleyref02_in.calls t137 128 143 false _ A95.out).mono ?_); rintro e w' ⟨rfl, ⟨nd, rfl⟩⟩))
               go_ret
               exact ⟨by first | rfl | (simp; done) | (simp [*]; done), by repeat (first | exact Drawn0.refl _ | apply Drawn0.step)⟩
             ·rw [if_neg c94] at H
              have c94b0 : (t136 == 244) = false := beq_eq_false_iff_ne.mpr c94
              have c94b1 : (t136 != 244) = true := bne_iff_ne.mpr c94
              obtain rfl := Option.some.inj H
              go_wp2_with (first | (go_at_call 50; (with_reducible refine (galleyref02_in.calls t136 241 243 true _ A90.out).mono ?_); rintro e w' ⟨rfl, ⟨nd, rfl⟩⟩) | (go_at_call 50; (with_reducible refine (galleyref02_in.calls t137 128 191 false _ A92.out).mono ?_); rintro e w' ⟨rfl, ⟨nd, rfl⟩⟩))
              go_ret
              exact ⟨by first | rfl | (simp; done) | (simp [*]; done), by repeat (first | exact Drawn0.refl _ | apply Drawn0.step)⟩
           ·replace c91 := Bool.eq_false_iff.mpr c91
            subst c91
            have H1 := H; rw [if_neg (show ¬ (false = true) by decide)] at H1
            clear H; have H := H1; clear H1
            by_cases c97 : t136 = 244
            ·rw [if_pos c97] at H
             have c97b0 : (t136 == 244) = true := beq_iff_eq.mpr c97
             have c97b1 : (t136 != 244) = false := bne_eq_false_iff_eq.mpr c97
             clear c97
             replace H := Option.bind_eq_some_iff.mp H
             obtain ⟨t179, A980, H⟩ := H
             have A98 := Aside0.mk A980; clear A980
             by_cases c99 : t179 = true
             ·subst c99
              have H1 := H; rw [if_pos rfl] at H1
              clear H; have H := H1; clear H1
              obtain rfl := Option.some.inj H
              go_wp2_with (first | (go_at_call 50; (with_reducible refine (galleyref02_in.calls t136 241 243 false _ A90.out).mono ?_); rintro e w' ⟨rfl, ⟨nd, rfl⟩⟩) | (go_at_call 50; (with_reducible refine (galleyref02_in.calls t137 128 143 true _ A98.out).mono ?_); rintro e w' ⟨rfl, ⟨nd, rfl⟩⟩))
              go_ret
              exact ⟨by first | rfl | (simp; done) | (simp [*]; done), by repeat (first | exact Drawn0.refl _ | apply Drawn0.step)⟩
             ·replace c99 := Bool.eq_false_iff.mpr c99
              subst c99
              have H1 := H; rw [if_neg (show ¬ (false = true) by decide)] at H1
              clear H; have H := H1; clear H1
              obtain rfl := Option.some.inj H
              go_wp2_with (first | (go_at_call 50; (with_reducible refine (galleyref02_in.calls t136 241 243 false _ A90.out).mono ?_); rintro e w' ⟨rfl, ⟨nd, rfl⟩⟩) | (go_at_call 50; (with_reducible refine (galleyref02_in.calls t137 128 143 false _ A98.out).mono ?_); rintro e w' ⟨rfl, ⟨nd, rfl⟩⟩))
              go_ret
              exact ⟨by first | rfl | (simp; done) | (simp [*]; done), by repeat (first | exact Drawn0.refl _ | apply Drawn0.step)⟩
            ·rw [if_neg c97] at H
             have c97b0 : (t136 == 244) = false := beq_eq_false_iff_ne.mpr c97
             have c97b1 : (t136 != 244) = true := bne_iff_ne.mpr c97
             obtain rfl := Option.some.inj H
             go_wp2_with (first | (go_at_call 50; (with_reducible refine (galleyref02_in.calls t136 241 243 false _ A90.out).mono ?_); rintro e w' ⟨rfl, ⟨nd, rfl⟩⟩))
             go_ret
             exact ⟨by first | rfl | (simp; done) | (simp [*]; done), by repeat (first | exact Drawn0.refl _ | apply Drawn0.step)⟩
         ·replace c76 := Bool.eq_false_iff.mpr c76
          subst c76
          have H1 := H; rw [if_neg (show ¬ (false = true) by decide)] at H1
          clear H; have H := H1; clear H1
          obtain rfl := Option.some.inj H
          go_wp2
          go_ret
          exact ⟨by first | rfl | (simp; done) | (simp [*]; done), by repeat (first | exact Drawn0.refl _ | apply Drawn0.step)⟩
end Go.Proofs.YteoonhidjldnfaaDoor.Pr

namespace Go.Proofs.YteoonhidjldnfaaDoor.Pr
open Go.RowKit Go.Proofs.YteoonhidjldnfaaDoorW.PrintWords Go.Proofs.YteoonhidjldnfaaDoorW.PrintLast Go.Proofs.YteoonhidjldnfaaDoorW.PrintMore
attribute [local go_sem] max2_int min2_int max_two min_two max_three min_three max_four min_four   -- for this text's walks alone
set_option linter.unusedVariables false
set_option linter.unusedSimpArgs false
def galleyref02_Inside.l0 : Nat → List Int → Int → Int → Option (Bool)
 | 0, _, _, _ => none
 | k + 1, x0, x1, x5 => if x5 ≤ 3 then (if (wrap64 (x1 - x5)) ≥ 0 then ((galleyref02_Long.f k x0 (wrap64 (x1 - x5))).bind fun t180 => (if t180 > x5 then (some true) else (galleyref02_Inside.l0 k x0 x1 (wrap64 (x5 + 1))))) else (galleyref02_Inside.l0 k x0 x1 (wrap64 (x5 + 1)))) else (some false)
def galleyref02_Inside.f (k : Nat) (l0 : List Int) (a1 : Int) : Option (Bool) := galleyref02_Inside.l0 k l0 a1 1
set_option maxHeartbeats 8000000 in
set_option maxRecDepth 100000 in
theorem galleyref02_Inside.calls (k : Nat) (A0 : Option Addr) (c0 : Nat) (l0 : List Int) (a1 : Int) (r : Bool) (w : World) (hr0 : Kd.C (Kd.int .u8) w A0 l0.length l0) (hc0 : l0.length ≤ c0) (h : galleyref02_Inside.f k l0 a1 = some r) :
  Calls Tryd.prog 29 #[.slice A0 l0.length c0, .int .i64 a1] w fun e w' => e = .returned (.bool r) ∧ Drawn0 w w' := by
 have HR0 := Aside0.mk hr0; have HC0 := Aside0.mk hc0; clear hr0 hc0
 have H : (galleyref02_Inside.l0 k l0 a1 1) = some r := h
 clear h; have H' := Aside0.mk H; clear H
 go_enter Tryd.func29, Tryd.ntmps29
 go_wp2
 go_loopg [5] k (fun kq v5 w' => ∃ (x5_1 : Int), v5 = .int .i64 x5_1 ∧ Aside0 (galleyref02_Inside.l0 kq l0 a1 x5_1 = some r) ∧ Aside0 (kq ≤ k) ∧ Drawn0 w w')
 case atStart => exact ⟨(1), (by first | rfl | (simp; done) | (simp [*]; done)), H', ⟨Nat.le_refl _⟩, by repeat (first | exact Drawn0.refl _ | apply Drawn0.step)⟩
 case round =>
  clear H'
  (try clear c2); (try clear p2)
  obtain ⟨x5_1, rfl, HA, HK1, ⟨m1, rfl⟩⟩ := hrel
  cases gk with
  | zero => exact absurd HA.out (by simp [galleyref02_Inside.l0])
  | succ k1 =>
   have H := HA.out; clear HA
   simp only [galleyref02_Inside.l0] at H
   by_cases c3 : x5_1 ≤ 3
   ·rw [if_pos c3] at H
    have c3b0 : decide (x5_1 ≤ 3) = true := decide_eq_true c3
    clear c3
    by_cases c4 : (wrap64 (a1 - x5_1)) ≥ 0
    ·rw [if_pos c4] at H
     have c4b0 : decide (0 ≤ (wrap64 (a1 - x5_1))) = true := decide_eq_true c4
     clear c4
     replace H := Option.bind_eq_some_iff.mp H
     obtain ⟨t180, A50, H⟩ := H
     have A5 := Aside0.mk A50; clear A50
     by_cases c6 : t180 > x5_1
     ·rw [if_pos c6] at H
      have c6b0 : decide (x5_1 < t180) = true := decide_eq_true c6
      clear c6
      obtain rfl := Option.some.inj H
      go_wp2_with (first | (go_at_call 38; (with_reducible refine (galleyref02_Long.calls k1 _ _ l0 (wrap64 (a1 - x5_1)) t180 _ ?side1 ?side2 A5.out).mono ?_); (case side1 => repeat (first | exact HR0.out | (with_reducible refine Kd.C_alloc ?_ _) | (with_reducible refine Kd.C_drewN ?_ _) | (with_reducible refine Kd.C_drew ?_))); (case side2 => exact HC0.out); rintro e w' ⟨rfl, ⟨nd, rfl⟩⟩))
      go_ret
      exact ⟨by first | rfl | (simp; done) | (simp [*]; done), by repeat (first | exact Drawn0.refl _ | apply Drawn0.step)⟩
     ·rw [if_neg c6] at H
      have c6b0 : decide (x5_1 < t180) = false := decide_eq_false c6
      clear c6; have H' := Aside0.mk H; clear H
      go_wp2_with (first | (go_at_call 38; (with_reducible refine (galleyref02_Long.calls k1 _ _ l0 (wrap64 (a1 - x5_1)) t180 _ ?side1 ?side2 A5.out).mono ?_); (case side1 => repeat (first | exact HR0.out | (with_reducible refine Kd.C_alloc ?_ _) | (with_reducible refine Kd.C_drewN ?_ _) | (with_reducible refine Kd.C_drew ?_))); (case side2 => exact HC0.out); rintro e w' ⟨rfl, ⟨nd, rfl⟩⟩))
      go_roundg k1
      case measure => have := HK1.out; omega
      case rel => exact ⟨(wrap64 (x5_1 + 1)), (by first | rfl | (simp; done) | (simp [*]; done)), H', ⟨by have := HK1.out; omega⟩, by repeat (first | exact Drawn0.refl _ | apply Drawn0.step)⟩
    ·rw [if_neg c4] at H
     have c4b0 : decide (0 ≤ (wrap64 (a1 - x5_1))) = false := decide_eq_false c4
     clear c4; have H' := Aside0.mk H; clear H
     go_wp2
     go_roundg k1
     case measure => have := HK1.out; omega
     case rel => exact ⟨(wrap64 (x5_1 + 1)), (by first | rfl | (simp; done) | (simp [*]; done)), H', ⟨by have := HK1.out; omega⟩, by repeat (first | exact Drawn0.refl _ | apply Drawn0.step)⟩
   ·rw [if_neg c3] at H
    have c3b0 : decide (x5_1 ≤ 3) = false := decide_eq_false c3
    clear c3
    obtain rfl := Option.some.inj H
    go_wp2
    go_ret
    exact ⟨by first | rfl | (simp; done) | (simp [*]; done), by repeat (first | exact Drawn0.refl _ | apply Drawn0.step)⟩
def galleyref02_Edges.l0 : Nat → List Int → List Int → Int → Option (List Int)
 | 0, _, _, _ => none
 | k + 1, x0, x3, x4 => if x4 ≤ (x0.length : Int) then ((galleyref02_Inside.f k x0 x4).bind fun t183 => (if t183 = true then (galleyref02_Edges.l0 k x0 x3 (wrap64 (x4 + 1))) else (if x3.length < 17592186044416 then (galleyref02_Edges.l0 k x0 (x3 ++ [x4]) (wrap64 (x4 + 1))) else (none)))) else (some x3)
def galleyref02_Edges.f (k : Nat) (l0 : List Int) : Option (List Int) := galleyref02_Edges.l0 k l0 ([] : List Int) 0
set_option maxHeartbeats 8000000 in
set_option maxRecDepth 100000 in
theorem galleyref02_Edges.calls (k : Nat) (A0 : Option Addr) (c0 : Nat) (l0 : List Int) (r : List Int) (w : World) (hr0 : Kd.C (Kd.int .u8) w A0 l0.length l0) (hc0 : l0.length ≤ c0) (h : galleyref02_Edges.f k l0 = some r) :
  Calls Tryd.prog 39 #[.slice A0 l0.length c0] w fun e w' => ∃ v0_ : Value, e = .returned (v0_) ∧ Kd.R (Kd.int .i64) 3 w' w.heap.size (fun _ => True) v0_ r ∧ Below w.heap.size w w' := by
 have HR0 := Aside0.mk hr0; have HC0 := Aside0.mk hc0; clear hr0 hc0
 have HB := Aside0.mk (Below.refl w.heap.size w)
 have H : (galleyref02_Edges.l0 k l0 ([] : List Int) 0) = some r := h
 clear h; have H' := Aside0.mk H; clear H
 go_enter Tryd.func39, Tryd.ntmps39
 go_wp2
 go_loopg [3, 4] k (fun kq v3 v4 w' => ∃ (x3_1 : List Int) (x4_1 : Int), v4 = .int .i64 x4_1 ∧ Aside0 (galleyref02_Edges.l0 kq l0 x3_1 x4_1 = some r) ∧ Aside0 (kq ≤ k) ∧ Aside0 (Kd.R (Kd.int .i64) 3 w' w.heap.size (fun _ => True) v3 x3_1) ∧ Aside0 (Below w.heap.size w w'))
 case atStart => exact ⟨(([] : List Int)), (0), (by first | rfl | (simp; done) | (simp [*]; done)), H', ⟨Nat.le_refl _⟩, ⟨by first | exact Kd.R_nil _ _ _ _ _ | exact Kd.N_nil _ _ _ _ _ | exact Kd.V_nil _ _ _ _ _ | exact Kd.Q_nil _ _ _ _ _ | exact Kd.S_nil _ _ _ _ _⟩, ⟨bl HB.out⟩⟩
 case round =>
  clear H'
  obtain ⟨x3_1, x4_1, rfl, HA, HK1, HO_3, HB⟩ := hrel
  cases gk with
  | zero => exact absurd HA.out (by simp [galleyref02_Edges.l0])
  | succ k1 =>
   have H := HA.out; clear HA
   simp only [galleyref02_Edges.l0] at H
   by_cases c2 : x4_1 ≤ (l0.length : Int)
   ·rw [if_pos c2] at H
    have c2b0 : decide (x4_1 ≤ (l0.length : Int)) = true := decide_eq_true c2
    clear c2
    replace H := Option.bind_eq_some_iff.mp H
    obtain ⟨t183, A30, H⟩ := H
    have A3 := Aside0.mk A30; clear A30
    by_cases c4 : t183 = true
    ·subst c4
     have H1 := H; rw [if_pos rfl] at H1
     clear H; have H := H1; clear H1; have H' := Aside0.mk H; clear H
     go_wp2_with (first | ((with_reducible refine gate_callee (f := 29) rfl ?_); refine goesL_ (some 13) rfl rfl Tryd.func29 (by kernel_rfl) rfl #[.slice A0 l0.length c0, .int .i64 x4_1] rfl (by (try simp only [List.map_toArray, List.map_cons, List.map_nil]); first | done | rfl | (simp only [List.length_drop, List.length_take]; rfl)) ?_; (with_reducible refine (galleyref02_Inside.calls k1 _ _ l0 x4_1 true _ ?side1 ?side2 A3.out).mono ?_); (case side1 => repeat (first | exact (Kd.C_below HR0.out HB.out) | (with_reducible refine Kd.C_alloc ?_ _) | (with_reducible refine Kd.C_drewN ?_ _) | (with_reducible refine Kd.C_drew ?_))); (case side2 => exact HC0.out); rintro e w' ⟨rfl, ⟨nd, rfl⟩⟩; refine ⟨_, rfl, ?_⟩))
     go_roundg k1
     case measure => have := HK1.out; omega
     case rel => exact ⟨(x3_1), (wrap64 (x4_1 + 1)), (by first | rfl | (simp; done) | (simp [*]; done)), H', ⟨by have := HK1.out; omega⟩, ⟨by (with_reducible repeat (first | apply Kd.R_alloc | apply Kd.R_drewN | apply Kd.R_drew)); exact HO_3.out⟩, ⟨bl HB.out⟩⟩
    ·replace c4 := Bool.eq_false_iff.mpr c4
     subst c4
     have H1 := H; rw [if_neg (show ¬ (false = true) by decide)] at H1
     clear H; have H := H1; clear H1
     by_cases c5 : x3_1.length < 17592186044416
     ·rw [if_pos c5] at H
      have LMc5 := Aside0.mk c5; clear c5
      obtain ⟨y184, hy184⟩ : ∃ y_ : List Int, y_ = (x3_1 ++ [x4_1]) := ⟨_, rfl⟩
      replace H : (galleyref02_Edges.l0 k1 l0 y184 (wrap64 (x4_1 + 1))) = some r := by first | (rw [hy184]; with_reducible exact H) | (have H2_ := (Option.bind_some _ _).symm.trans H; rw [hy184]; with_reducible exact H2_) | (have H2_ := (Option.bind_some _ _).symm.trans H; with_reducible exact H2_) | with_reducible exact H | (rw [hy184]; exact H) | exact H
      have Ny184 := Aside0.mk hy184; clear hy184; have H' := Aside0.mk H; clear H
      go_wp2_with (first | ((with_reducible refine gate_callee (f := 29) rfl ?_); refine goesL_ (some 13) rfl rfl Tryd.func29 (by kernel_rfl) rfl #[.slice A0 l0.length c0, .int .i64 x4_1] rfl (by (try simp only [List.map_toArray, List.map_cons, List.map_nil]); first | done | rfl | (simp only [List.length_drop, List.length_take]; rfl)) ?_; (with_reducible refine (galleyref02_Inside.calls k1 _ _ l0 x4_1 false _ ?side1 ?side2 A3.out).mono ?_); (case side1 => repeat (first | exact (Kd.C_below HR0.out HB.out) | (with_reducible refine Kd.C_alloc ?_ _) | (with_reducible refine Kd.C_drewN ?_ _) | (with_reducible refine Kd.C_drew ?_))); (case side2 => exact HC0.out); rintro e w' ⟨rfl, ⟨nd, rfl⟩⟩; refine ⟨_, rfl, ?_⟩) | ((with_reducible refine gate_builtin (b := .append) (xs := #[.tmp 15, .tmp 17]) rfl ?_); at_builtin; refine Kd.R_append (Kd.int .i64) (w0 := w) w.heap.size rfl (.tmp 15) (.tmp 17) 70 3 (.int .i64 0) 8 rfl Tryd.underlying70 info3 rfl (by decide) (by omega) u3 x3_1 x4_1 [.int .i64 x4_1] (fun _ => True) (fun _ => False) rfl rfl ?aP (fun _ hk => hk.elim) ?aF ?aO ?aB ?aS ?aL ?_; (case aP => exact rfl); (case aB => exact (bl HB.out)); (case aF => exact (fun _ _ => trivial)); (case aO => exact (by (with_reducible repeat (first | apply Kd.R_alloc | apply Kd.R_drewN | apply Kd.R_drew)); exact HO_3.out)); (case aS => exact (below_size (bl HB.out))); (case aL => have := LMc5.out; omega); intro v185 w6 ho hb hg hat; rw [← Ny184.out] at ho; have n0_ := Aside0.mk (hb); have n1_ := Aside0.mk (ho); clear HB; clear HO_3; have HB := n0_; have HO186 := n1_; clear n0_ n1_; clear ho hb hg hat))
      go_roundg k1
      case measure => have := HK1.out; omega
      case rel => exact ⟨(y184), (wrap64 (x4_1 + 1)), (by first | rfl | (simp; done) | (simp [*]; done)), H', ⟨by have := HK1.out; omega⟩, ⟨by (with_reducible repeat (first | apply Kd.R_alloc | apply Kd.R_drewN | apply Kd.R_drew)); exact HO186.out⟩, ⟨bl HB.out⟩⟩
     ·rw [if_neg c5] at H
      exact absurd H (by simp)
   ·rw [if_neg c2] at H
    have c2b0 : decide (x4_1 ≤ (l0.length : Int)) = false := decide_eq_false c2
    clear c2
    obtain rfl := Option.some.inj H
    go_wp2
    go_ret
    exact ⟨_, by first | rfl | (simp [errW_none, errW_some] <;> rfl) | (simp [*, errW_none, errW_some] <;> rfl), by (with_reducible repeat (first | apply Kd.R_alloc | apply Kd.R_drewN | apply Kd.R_drew)); exact HO_3.out, bl HB.out⟩
mutual
def galleyref02_Of.j0 : Nat → List Int → Int → Int → Int → Option (Int × Int × Bool)
 | 0, _, _, _, _ => none
 | k + 1, x0, x1, x5, x6 => galleyref02_Of.l0 k x0 x1 x5 x6 1
def galleyref02_Of.l0 : Nat → List Int → Int → Int → Int → Int → Option (Int × Int × Bool)
 | 0, _, _, _, _, _ => none
 | k + 1, x0, x1, x5, x6, x7 => if x7 < x5 then (if 0 ≤ (wrap64 (x1 + x7)) then (if (wrap64 (x1 + x7)) < (x0.length : Int) then (galleyref02_Of.l0 k x0 x1 x5 (wrap64 ((wrap64 (x6 * 64)) + (Int.tmod (wrap64 (rd x0 (wrap64 (x1 + x7)))) 64))) (wrap64 (x7 + 1))) else (none)) else (none)) else (some (wrap32 (x6), x5, true))
end
def galleyref02_Of.f (k : Nat) (l0 : List Int) (a1 : Int) : Option (Int × Int × Bool) := (galleyref02_Long.f k l0 a1).bind fun t188 => (if t188 = 0 then (some (65533, 1, false)) else (if 0 ≤ a1 then (if a1 < (l0.length : Int) then (if t188 = 2 then (galleyref02_Of.j0 k l0 a1 t188 (Int.tmod (wrap64 (rd l0 a1)) 32)) else (if t188 = 3 then (galleyref02_Of.j0 k l0 a1 t188 (Int.tmod (wrap64 (rd l0 a1)) 16)) else (if t188 = 4 then (galleyref02_Of.j0 k l0 a1 t188 (Int.tmod (wrap64 (rd l0 a1)) 8)) else (galleyref02_Of.j0 k l0 a1 t188 (wrap64 (rd l0 a1)))))) else (none)) else (none)))
set_option maxHeartbeats 8000000 in
set_option maxRecDepth 100000 in
theorem galleyref02_Of.calls (k : Nat) (A0 : Option Addr) (c0 : Nat) (l0 : List Int) (a1 : Int) (r1 : Int) (r2 : Int) (r3 : Bool) (w : World) (hr0 : Kd.C (Kd.int .u8) w A0 l0.length l0) (hc0 : l0.length ≤ c0) (h : galleyref02_Of.f k l0 a1 = some (r1, r2, r3)) :
  Calls Tryd.prog 40 #[.slice A0 l0.length c0, .int .i64 a1] w fun e w' => e = .returned (.agg #[.int .i32 r1, .int .i64 r2, .bool r3]) ∧ Below w.heap.size w w' := by
 have hu64 := Tryd.underlying64
 have HR0 := Aside0.mk hr0; have HC0 := Aside0.mk hc0; clear hr0 hc0
 have HB := Aside0.mk (Below.refl w.heap.size w)
 have H : ((galleyref02_Long.f k l0 a1).bind fun t188 => (if t188 = 0 then (some (65533, 1, false)) else (if 0 ≤ a1 then (if a1 < (l0.length : Int) then (if t188 = 2 then (galleyref02_Of.j0 k l0 a1 t188 (Int.tmod (wrap64 (rd l0 a1)) 32)) else (if t188 = 3 then (galleyref02_Of.j0 k l0 a1 t188 (Int.tmod (wrap64 (rd l0 a1)) 16)) else (if t188 = 4 then (galleyref02_Of.j0 k l0 a1 t188 (Int.tmod (wrap64 (rd l0 a1)) 8)) else (galleyref02_Of.j0 k l0 a1 t188 (wrap64 (rd l0 a1)))))) else (none)) else (none)))) = some (r1, r2, r3) := h
 clear h
 replace H := Option.bind_eq_some_iff.mp H
 obtain ⟨t188, A30, H⟩ := H
 have A3 := Aside0.mk A30; clear A30
 by_cases c4 : t188 = 0
 ·rw [if_pos c4] at H
  have c4b0 : (t188 == 0) = true := beq_iff_eq.mpr c4
  have c4b1 : (t188 != 0) = false := bne_eq_false_iff_eq.mpr c4
  clear c4
  simp only [Option.some.injEq, Prod.mk.injEq] at H
  obtain ⟨rfl, rfl, rfl⟩ := H
  go_enter Tryd.func40, Tryd.ntmps40
  go_wp2_with (first | ((with_reducible refine gate_dst (N := 4) rfl ?_); refine box_event ?hg (N := 4) ?hd (cs := #[.int .i32 0, .int .i64 0, .bool false]) (t := 64) ?hr ?_; (case hd => rfl); (case hg => rfl); (case hr => first | (go_simp; done) | (go_simp; rfl)); intro gb187 hg w5 hbox hb; have n0_ := Aside0.mk (below_step (bl HB.out) hb); have n1_ := Aside0.mk (hbox); have n2_ := Aside0.mk ((by rw [hg]; exact (below_size (bl HB.out)) : w.heap.size ≤ gb187)); have n3_ := Aside0.mk ((by rw [hg]; exact (below_size (bl HB.out)) : w.heap.size ≤ gb187)); clear HB; have HB := n0_; have BK187 := n1_; have GW187 := n2_; have GE187 := n3_; clear n0_ n1_ n2_ n3_; clear hb hbox hg) | ((with_reducible refine gate_callee (f := 38) rfl ?_); refine goesL_ (some 10) rfl rfl Tryd.func38 (by kernel_rfl) rfl #[.slice A0 l0.length c0, .int .i64 a1] rfl (by (try simp only [List.map_toArray, List.map_cons, List.map_nil]); first | done | rfl | (simp only [List.length_drop, List.length_take]; rfl)) ?_; (with_reducible refine (galleyref02_Long.calls k _ _ l0 a1 t188 _ ?side1 ?side2 A3.out).mono ?_); (case side1 => repeat (first | exact (Kd.C_below HR0.out HB.out) | (with_reducible refine Kd.C_alloc ?_ _) | (with_reducible refine Kd.C_drewN ?_ _) | (with_reducible refine Kd.C_drew ?_))); (case side2 => exact HC0.out); rintro e w' ⟨rfl, ⟨nd, rfl⟩⟩; refine ⟨_, rfl, ?_⟩; (try (rw [drewN_self w5]; generalize hq_ : World.drewN w5 _ = w5; have n0_ : Aside0 (w5.heap[gb187]? = some (.cells #[.int .i32 0, .int .i64 0, .bool false] 64 (0, 0))) := ⟨by rw [← hq_]; exact (pl BK187.out)⟩; have n1_ : Aside0 (Below w.heap.size w w5) := ⟨by rw [← hq_]; exact (by repeat (first | (with_reducible first | exact HB.out | apply below_alloc | apply pw_below_drewN | apply below_drew1 | refine below_set ?_ GE187.out) | exact HB.out))⟩; clear BK187 HB hq_; have BK187 := n0_; have HB := n1_; clear n0_ n1_)); have hcz6_0 : w5.cell? ⟨gb187, 0, none⟩ = some (.int .i32 0) := (blk_cell BK187.out 0).trans rfl; have hcz6_1 : w5.cell? ⟨gb187, 1, none⟩ = some (.int .i64 0) := (blk_cell BK187.out 1).trans rfl; have hcz6_2 : w5.cell? ⟨gb187, 2, none⟩ = some (.bool false) := (blk_cell BK187.out 2).trans rfl; have hfz6_0 := blk_frozen BK187.out 0; have hfz6_1 := blk_frozen BK187.out 1; have hfz6_2 := blk_frozen BK187.out 2))
  refine bodyPost_ret (results_cell_row rfl _ _ gb187 64 #[.int .i32 65533, .int .i64 1, .bool false] (0, 0) _ rfl (by refine pl ?_; refine blk_put (cs := #[.int .i32 65533, .int .i64 1, .bool false]) ?_ 2 _ rfl; refine pl ?_; refine blk_put (cs := #[.int .i32 65533, .int .i64 0, .bool false]) ?_ 1 _ rfl; refine pl ?_; refine blk_put (cs := #[.int .i32 0, .int .i64 0, .bool false]) ?_ 0 _ rfl; refine pl ?_; exact BK187.out) Tryd.underlying64 rfl (by kernel_rfl)) rfl ?_
  exact ⟨by first | rfl | (simp [errW_none, errW_some] <;> rfl) | (simp [*, errW_none, errW_some] <;> rfl), by repeat (first | (with_reducible first | exact HB.out | apply below_alloc | apply pw_below_drewN | apply below_drew1 | refine below_set ?_ GE187.out) | exact HB.out)⟩
 ·rw [if_neg c4] at H
  have c4b0 : (t188 == 0) = false := beq_eq_false_iff_ne.mpr c4
  have c4b1 : (t188 != 0) = true := bne_iff_ne.mpr c4
  by_cases c7 : 0 ≤ a1
  ·rw [if_pos c7] at H
   have c7b0 : decide (0 ≤ a1) = true := decide_eq_true c7
   clear c7
   by_cases c8 : a1 < (l0.length : Int)
   ·rw [if_pos c8] at H
    have c8b0 : decide (a1 < (l0.length : Int)) = true := decide_eq_true c8
    clear c8; have HC9 := Aside0.mk H; clear H
    go_enter Tryd.func40, Tryd.ntmps40
    go_upto_block 0 with (first | ((with_reducible refine gate_dst (N := 4) rfl ?_); refine box_event ?hg (N := 4) ?hd (cs := #[.int .i32 0, .int .i64 0, .bool false]) (t := 64) ?hr ?_; (case hd => rfl); (case hg => rfl); (case hr => first | (go_simp; done) | (go_simp; rfl)); intro gb187 hg w10 hbox hb; have n0_ := Aside0.mk (below_step (bl HB.out) hb); have n1_ := Aside0.mk (hbox); have n2_ := Aside0.mk ((by rw [hg]; exact (below_size (bl HB.out)) : w.heap.size ≤ gb187)); have n3_ := Aside0.mk ((by rw [hg]; exact (below_size (bl HB.out)) : w.heap.size ≤ gb187)); clear HB; have HB := n0_; have BK187 := n1_; have GW187 := n2_; have GE187 := n3_; clear n0_ n1_ n2_ n3_; clear hb hbox hg) | ((with_reducible refine gate_callee (f := 38) rfl ?_); refine goesL_ (some 10) rfl rfl Tryd.func38 (by kernel_rfl) rfl #[.slice A0 l0.length c0, .int .i64 a1] rfl (by (try simp only [List.map_toArray, List.map_cons, List.map_nil]); first | done | rfl | (simp only [List.length_drop, List.length_take]; rfl)) ?_; (with_reducible refine (galleyref02_Long.calls k _ _ l0 a1 t188 _ ?side1 ?side2 A3.out).mono ?_); (case side1 => repeat (first | exact (Kd.C_below HR0.out HB.out) | (with_reducible refine Kd.C_alloc ?_ _) | (with_reducible refine Kd.C_drewN ?_ _) | (with_reducible refine Kd.C_drew ?_))); (case side2 => exact HC0.out); rintro e w' ⟨rfl, ⟨nd, rfl⟩⟩; refine ⟨_, rfl, ?_⟩; have p189 : 0 ≤ (a1 : Int) := of_decide_eq_true (by first | (with_reducible assumption) | assumption); have q189 : a1 < (l0.length : Int) := of_decide_eq_true (by first | (with_reducible assumption) | assumption); obtain ⟨ad189, e189, hx189_0⟩ := Kd.at_int HR0.out a1 p189 q189; cases e189; replace hx189_0 := (HB.out.cell (World.block_lt_of_cell? w _ hx189_0)).trans hx189_0; replace p189 := eq_true p189; replace q189 := eq_true q189))
    (try simp only [Act.put, List.setIfInBounds_toArray, List.set_cons_zero, List.set_cons_succ])
    go_cut [6] (fun v6 wc => ∃ (kq : Nat) (x6_8 : Int), v6 = .int .i64 x6_8 ∧ Aside0 (galleyref02_Of.j0 kq l0 a1 t188 x6_8 = some (r1, r2, r3)) ∧ Aside0 (kq ≤ k) ∧ Aside0 (wc.heap[gb187]? = some (.cells #[.int .i32 0, .int .i64 0, .bool false] 64 (0, 0))) ∧ Aside0 (Below w.heap.size w wc))
    case first =>
     have H := HC9.out; clear HC9
     by_cases c11 : t188 = 2
     ·rw [if_pos c11] at H
      have c11b0 : (t188 == 2) = true := beq_iff_eq.mpr c11
      have c11b1 : (t188 != 2) = false := bne_eq_false_iff_eq.mpr c11
      clear c11
      (first | rw [c11b0] | (simp only [i64_w, i32_w]; rw [c11b0]) | skip)
      have H' := Aside0.mk H; clear H
      go_wp2
      go_meet
      case rel => exact ⟨_, (Int.tmod (wrap64 (rd l0 a1)) 32), (by first | rfl | (simp; done) | (simp [*]; done)), H', ⟨by first | omega | exact Nat.le_refl _⟩, ⟨pl BK187.out⟩, ⟨by repeat (first | (with_reducible first | exact HB.out | apply below_alloc | apply pw_below_drewN | apply below_drew1 | refine below_set ?_ GE187.out) | exact HB.out)⟩⟩
     ·rw [if_neg c11] at H
      have c11b0 : (t188 == 2) = false := beq_eq_false_iff_ne.mpr c11
      have c11b1 : (t188 != 2) = true := bne_iff_ne.mpr c11
      (first | rw [c11b0] | (simp only [i64_w, i32_w]; rw [c11b0]) | skip)
      by_cases c12 : t188 = 3
      ·rw [if_pos c12] at H
       have c12b0 : (t188 == 3) = true := beq_iff_eq.mpr c12
       have c12b1 : (t188 != 3) = false := bne_eq_false_iff_eq.mpr c12
       clear c12; have H' := Aside0.mk H; clear H
       go_wp2
       go_meet
       case rel => exact ⟨_, (Int.tmod (wrap64 (rd l0 a1)) 16), (by first | rfl | (simp; done) | (simp [*]; done)), H', ⟨by first | omega | exact Nat.le_refl _⟩, ⟨pl BK187.out⟩, ⟨by repeat (first | (with_reducible first | exact HB.out | apply below_alloc | apply pw_below_drewN | apply below_drew1 | refine below_set ?_ GE187.out) | exact HB.out)⟩⟩
      ·rw [if_neg c12] at H
       have c12b0 : (t188 == 3) = false := beq_eq_false_iff_ne.mpr c12
       have c12b1 : (t188 != 3) = true := bne_iff_ne.mpr c12
       by_cases c13 : t188 = 4
       ·rw [if_pos c13] at H
        have c13b0 : (t188 == 4) = true := beq_iff_eq.mpr c13
        have c13b1 : (t188 != 4) = false := bne_eq_false_iff_eq.mpr c13
        clear c13; have H' := Aside0.mk H; clear H
        go_wp2
        go_meet
        case rel => exact ⟨_, (Int.tmod (wrap64 (rd l0 a1)) 8), (by first | rfl | (simp; done) | (simp [*]; done)), H', ⟨by first | omega | exact Nat.le_refl _⟩, ⟨pl BK187.out⟩, ⟨by repeat (first | (with_reducible first | exact HB.out | apply below_alloc | apply pw_below_drewN | apply below_drew1 | refine below_set ?_ GE187.out) | exact HB.out)⟩⟩
       ·rw [if_neg c13] at H
        have c13b0 : (t188 == 4) = false := beq_eq_false_iff_ne.mpr c13
        have c13b1 : (t188 != 4) = true := bne_iff_ne.mpr c13
        have H' := Aside0.mk H; clear H
        go_wp2
        go_meet
        case rel => exact ⟨_, (wrap64 (rd l0 a1)), (by first | rfl | (simp; done) | (simp [*]; done)), H', ⟨by first | omega | exact Nat.le_refl _⟩, ⟨pl BK187.out⟩, ⟨by repeat (first | (with_reducible first | exact HB.out | apply below_alloc | apply pw_below_drewN | apply below_drew1 | refine below_set ?_ GE187.out) | exact HB.out)⟩⟩
    case rest =>
     clear HC9; (try clear c1); (try clear p1); (try clear q1); (try clear hx1); (try clear p2); (try clear c3); (try clear c4); (try clear c4b0); (try clear c4b1); (try clear p6); (try clear c7); (try clear c7b0); (try clear c8); (try clear c8b0); (try clear c11); (try clear c11b0); (try clear c11b1); (try clear c12); (try clear c12b0); (try clear c12b1); (try clear c13); (try clear c13b0); (try clear c13b1); (try clear hcz6_0); (try clear hcz6_1); (try clear hcz6_2); (try clear hfz6_0); (try clear hfz6_1); (try clear hfz6_2); (try clear hx189_0); (try clear p189); (try clear q189)
     obtain ⟨kq, x6_8, rfl, HA, HJ8, BK187, HB⟩ := hcut
     cases kq with
     | zero => exact absurd HA.out (by simp [galleyref02_Of.j0])
     | succ kj8 =>
      have H := HA.out; clear HA
      simp only [galleyref02_Of.j0] at H
      have H' := Aside0.mk H; clear H
      go_wp2
      go_loopg [6, 7] kj8 (fun kq v6 v7 w' => ∃ (x6_2 : Int) (x7_2 : Int), v6 = .int .i64 x6_2 ∧ v7 = .int .i64 x7_2 ∧ Aside0 (galleyref02_Of.l0 kq l0 a1 t188 x6_2 x7_2 = some (r1, r2, r3)) ∧ Aside0 (kq ≤ kj8) ∧ Aside0 (w'.heap[gb187]? = some (.cells #[.int .i32 0, .int .i64 0, .bool false] 64 (0, 0))) ∧ Aside0 (Below w.heap.size w w'))
      case atStart => exact ⟨(x6_8), (1), (by first | rfl | (simp; done) | (simp [*]; done)), (by first | rfl | (simp; done) | (simp [*]; done)), H', ⟨Nat.le_refl _⟩, ⟨pl BK187.out⟩, ⟨by repeat (first | (with_reducible first | exact HB.out | apply below_alloc | apply pw_below_drewN | apply below_drew1 | refine below_set ?_ GE187.out) | exact HB.out)⟩⟩
      case round =>
       clear H'
       (try clear c1); (try clear p1); (try clear q1); (try clear hx1); (try clear p2); (try clear c3); (try clear c4); (try clear c4b0); (try clear c4b1); (try clear p6); (try clear c7); (try clear c7b0); (try clear c8); (try clear c8b0); (try clear c11); (try clear c11b0); (try clear c11b1); (try clear c12); (try clear c12b0); (try clear c12b1); (try clear c13); (try clear c13b0); (try clear c13b1); (try clear hcz6_0); (try clear hcz6_1); (try clear hcz6_2); (try clear hfz6_0); (try clear hfz6_1); (try clear hfz6_2); (try clear hx189_0); (try clear p1); (try clear p189); (try clear p2); (try clear p6); (try clear q1); (try clear q189)
       obtain ⟨x6_2, x7_2, rfl, rfl, HA, HK2, BK187, HB⟩ := hrel
       cases gk with
       | zero => exact absurd HA.out (by simp [galleyref02_Of.l0])
       | succ k2 =>
        have H := HA.out; clear HA
        simp only [galleyref02_Of.l0] at H
        by_cases c14 : x7_2 < t188
        ·rw [if_pos c14] at H
         have c14b0 : decide (x7_2 < t188) = true := decide_eq_true c14
         clear c14
         obtain ⟨ji15, hji15⟩ : ∃ j_ : Int, (wrap64 (a1 + x7_2)) = j_ := ⟨_, rfl⟩
         replace H : (if 0 ≤ (ji15) then (if (ji15) < (l0.length : Int) then (galleyref02_Of.l0 k2 l0 a1 t188 (wrap64 ((wrap64 (x6_2 * 64)) + (Int.tmod (wrap64 (rd l0 (ji15))) 64))) (wrap64 (x7_2 + 1))) else (none)) else (none)) = some (r1, r2, r3) := by first | (rw [hji15] at H; exact H) | (simp only [hji15] at H ⊢; exact H)
         have hji15w : (IntKind.i64.wrap (a1 + x7_2)) = ji15 := (i64_w _).trans hji15
         by_cases c16 : 0 ≤ (ji15)
         ·rw [if_pos c16] at H
          have c16b0 : decide (0 ≤ (ji15)) = true := decide_eq_true c16
          clear c16
          by_cases c17 : (ji15) < (l0.length : Int)
          ·rw [if_pos c17] at H
           have c17b0 : decide ((ji15) < (l0.length : Int)) = true := decide_eq_true c17
           clear c17; have H' := Aside0.mk H; clear H
           have p190 : 0 ≤ ((ji15) : Int) := of_decide_eq_true (by first | (with_reducible assumption) | assumption)
           have q190 : (ji15) < (l0.length : Int) := of_decide_eq_true (by first | (with_reducible assumption) | assumption)
           obtain ⟨ad190, e190, hx190_0⟩ := Kd.at_int HR0.out (ji15) p190 q190
           obtain rfl : ad189 = ad190 := (by injection e190)
           replace hx190_0 := (HB.out.cell (World.block_lt_of_cell? w _ hx190_0)).trans hx190_0
           replace p190 := eq_true p190
           replace q190 := eq_true q190
           go_wp2
           go_roundg k2
           case measure => have := HJ8.out; have := HK2.out; omega
           case rel => exact ⟨(wrap64 ((wrap64 (x6_2 * 64)) + (Int.tmod (wrap64 (rd l0 (ji15))) 64))), (wrap64 (x7_2 + 1)), (by first | rfl | (simp; done) | (simp only [← hji15] <;> (first | rfl | simp)) | (simp [*]; done)), (by first | rfl | (simp; done) | (simp [*]; done)), H', ⟨by have := HJ8.out; have := HK2.out; omega⟩, ⟨pl BK187.out⟩, ⟨by repeat (first | (with_reducible first | exact HB.out | apply below_alloc | apply pw_below_drewN | apply below_drew1 | refine below_set ?_ GE187.out) | exact HB.out)⟩⟩
          ·rw [if_neg c17] at H
           exact absurd H (by simp)
         ·rw [if_neg c16] at H
          exact absurd H (by simp)
        ·rw [if_neg c14] at H
         have c14b0 : decide (x7_2 < t188) = false := decide_eq_false c14
         clear c14
         simp only [Option.some.injEq, Prod.mk.injEq] at H
         obtain ⟨rfl, rfl, rfl⟩ := H
         have hcz18_0 : wr.cell? ⟨gb187, 0, none⟩ = some (.int .i32 0) := (blk_cell BK187.out 0).trans rfl
         have hcz18_1 : wr.cell? ⟨gb187, 1, none⟩ = some (.int .i64 0) := (blk_cell BK187.out 1).trans rfl
         have hcz18_2 : wr.cell? ⟨gb187, 2, none⟩ = some (.bool false) := (blk_cell BK187.out 2).trans rfl
         have hfz18_0 := blk_frozen BK187.out 0
         have hfz18_1 := blk_frozen BK187.out 1
         have hfz18_2 := blk_frozen BK187.out 2
         go_wp2
         refine bodyPost_ret (results_cell_row rfl _ _ gb187 64 #[.int .i32 (wrap32 (x6_2)), .int .i64 t188, .bool true] (0, 0) _ rfl (by refine pl ?_; refine blk_put (cs := #[.int .i32 (wrap32 (x6_2)), .int .i64 t188, .bool false]) ?_ 2 _ rfl; refine pl ?_; refine blk_put (cs := #[.int .i32 (wrap32 (x6_2)), .int .i64 0, .bool false]) ?_ 1 _ rfl; refine pl ?_; refine blk_put (cs := #[.int .i32 0, .int .i64 0, .bool false]) ?_ 0 _ rfl; refine pl ?_; exact BK187.out) Tryd.underlying64 rfl (by kernel_rfl)) rfl ?_
         exact ⟨by first | rfl | (simp [errW_none, errW_some] <;> rfl) | (simp [*, errW_none, errW_some] <;> rfl), by repeat (first | (with_reducible first | exact HB.out | apply below_alloc | apply pw_below_drewN | apply below_drew1 | refine below_set ?_ GE187.out) | exact HB.out)⟩
   ·rw [if_neg c8] at H
    exact absurd H (by simp)
  ·rw [if_neg c7] at H
   exact absurd H (by simp)
def galleyref02_Steps.l0 : Nat → List Int → List (S64) → List Int → Int → Option ((List (S64)))
 | 0, _, _, _, _ => none
 | k + 1, x0, x3, x4, x5 => if (wrap64 (x5 + 1)) < (x4.length : Int) then (if 0 ≤ x5 then (if x5 < (x4.length : Int) then ((galleyref02_Of.f k x0 (rd x4 x5)).bind fun bt195 => (if x3.length < 5864062014805 then (galleyref02_Steps.l0 k x0 (x3 ++ [(⟨bt195.1, bt195.2.1, bt195.2.2⟩ : S64)]) x4 (wrap64 (x5 + 1))) else (none))) else (none)) else (none)) else (some x3)
def galleyref02_Steps.f (k : Nat) (l0 : List Int) : Option ((List (S64))) := (galleyref02_Edges.f k l0).bind fun t191 => (galleyref02_Steps.l0 k l0 ([] : List (S64)) t191 0)
set_option maxHeartbeats 8000000 in
set_option maxRecDepth 100000 in
theorem galleyref02_Steps.calls (k : Nat) (A0 : Option Addr) (c0 : Nat) (l0 : List Int) (r : List (S64)) (w : World) (hr0 : Kd.C (Kd.int .u8) w A0 l0.length l0) (hc0 : l0.length ≤ c0) (h : galleyref02_Steps.f k l0 = some r) :
  Calls Tryd.prog 30 #[.slice A0 l0.length c0] w fun e w' => ∃ v0_ : Value, e = .returned (v0_) ∧ Kd.R k64 64 w' w.heap.size (fun _ => True) v0_ r ∧ Below w.heap.size w w' := by
 have HR0 := Aside0.mk hr0; have HC0 := Aside0.mk hc0; clear hr0 hc0
 have HB := Aside0.mk (Below.refl w.heap.size w)
 have H : ((galleyref02_Edges.f k l0).bind fun t191 => (galleyref02_Steps.l0 k l0 ([] : List (S64)) t191 0)) = some r := h
 clear h
 replace H := Option.bind_eq_some_iff.mp H
 obtain ⟨t191, A20, H⟩ := H
 have A2 := Aside0.mk A20; clear A20; have H' := Aside0.mk H; clear H
 go_enter Tryd.func30, Tryd.ntmps30
 go_wp2_with (first | ((with_reducible refine gate_callee (f := 39) rfl ?_); refine goesL_ (some 7) rfl rfl Tryd.func39 (by kernel_rfl) rfl #[.slice A0 l0.length c0] rfl (by (try simp only [List.map_toArray, List.map_cons, List.map_nil]); first | done | rfl | (simp only [List.length_drop, List.length_take]; rfl)) ?_; (with_reducible refine (galleyref02_Edges.calls k _ _ l0 t191 _ ?side1 ?side2 A2.out).mono ?_); (case side1 => repeat (first | exact HR0.out | (with_reducible refine Kd.C_alloc ?_ _) | (with_reducible refine Kd.C_drewN ?_ _) | (with_reducible refine Kd.C_drew ?_))); (case side2 => exact HC0.out); rintro e w3 ⟨v192, rfl, ho0, hb⟩; refine ⟨_, rfl, ?_⟩; have n0_ := Aside0.mk (Kd.R_lower ho0 (below_size (bl HB.out))); have n1_ := Aside0.mk (below_step (bl HB.out) hb); clear HB; have HO193 := n0_; have HB := n1_; clear n0_ n1_; (try clear hb); (try clear hb2); (try clear hk); (try clear hi); (try clear ho0)))
 go_loopg [3, 5] k (fun kq v3 v5 w' => ∃ (x3_1 : List (S64)) (x5_1 : Int), v5 = .int .i64 x5_1 ∧ Aside0 (galleyref02_Steps.l0 kq l0 x3_1 t191 x5_1 = some r) ∧ Aside0 (kq ≤ k) ∧ Aside0 (Kd.R k64 64 w' w.heap.size (fun _ => True) v3 x3_1) ∧ Aside0 (Kd.R (Kd.int .i64) 3 w' w.heap.size (fun _ => True) v192 t191) ∧ Aside0 (Below w.heap.size w w'))
 case atStart => exact ⟨(([] : List (S64))), (0), (by first | rfl | (simp; done) | (simp [*]; done)), H', ⟨Nat.le_refl _⟩, ⟨by first | exact Kd.R_nil _ _ _ _ _ | exact Kd.N_nil _ _ _ _ _ | exact Kd.V_nil _ _ _ _ _ | exact Kd.Q_nil _ _ _ _ _ | exact Kd.S_nil _ _ _ _ _⟩, ⟨by (with_reducible repeat (first | apply Kd.R_alloc | apply Kd.R_drewN | apply Kd.R_drew)); exact HO193.out⟩, ⟨bl HB.out⟩⟩
 case round =>
  clear H'
  (try clear p2); (try clear c3)
  obtain ⟨x3_1, x5_1, rfl, HA, HK1, HO_3, HO_4, HB⟩ := hrel
  cases gk with
  | zero => exact absurd HA.out (by simp [galleyref02_Steps.l0])
  | succ k1 =>
   have H := HA.out; clear HA
   simp only [galleyref02_Steps.l0] at H
   by_cases c4 : (wrap64 (x5_1 + 1)) < (t191.length : Int)
   ·rw [if_pos c4] at H
    have c4b0 : decide ((wrap64 (x5_1 + 1)) < (t191.length : Int)) = true := decide_eq_true c4
    clear c4
    by_cases c5 : 0 ≤ x5_1
    ·rw [if_pos c5] at H
     have c5b0 : decide (0 ≤ x5_1) = true := decide_eq_true c5
     clear c5
     by_cases c6 : x5_1 < (t191.length : Int)
     ·rw [if_pos c6] at H
      have c6b0 : decide (x5_1 < (t191.length : Int)) = true := decide_eq_true c6
      clear c6
      replace H := Option.bind_eq_some_iff.mp H
      obtain ⟨⟨t195, t196, t197⟩, A70, H⟩ := H
      have A7 := Aside0.mk A70; clear A70
      by_cases c8 : x3_1.length < 5864062014805
      ·rw [if_pos c8] at H
       have LMc8 := Aside0.mk c8; clear c8
       obtain ⟨y198, hy198⟩ : ∃ y_ : List (S64), y_ = (x3_1 ++ [(⟨t195, t196, t197⟩ : S64)]) := ⟨_, rfl⟩
       replace H : (galleyref02_Steps.l0 k1 l0 y198 t191 (wrap64 (x5_1 + 1))) = some r := by first | (rw [hy198]; with_reducible exact H) | (have H2_ := (Option.bind_some _ _).symm.trans H; rw [hy198]; with_reducible exact H2_) | (have H2_ := (Option.bind_some _ _).symm.trans H; with_reducible exact H2_) | with_reducible exact H | (rw [hy198]; exact H) | exact H
       have Ny198 := Aside0.mk hy198; clear hy198; have H' := Aside0.mk H; clear H
       obtain ⟨Ao9, co9, eo9⟩ := Kd.R_slice HO_4.out
       subst eo9
       have p194 : 0 ≤ (x5_1 : Int) := of_decide_eq_true (by first | (with_reducible assumption) | assumption)
       have q194 : x5_1 < (t191.length : Int) := of_decide_eq_true (by first | (with_reducible assumption) | assumption)
       obtain ⟨ad194, e194, hx194_0⟩ := Kd.at_int (Kd.R_reads' HO_4.out).2.2 x5_1 p194 q194
       cases e194
       replace p194 := eq_true p194
       replace q194 := eq_true q194
       go_wp2_with (first | ((with_reducible refine gate_callee (f := 40) rfl ?_); refine goesL_ (some 21) rfl rfl Tryd.func40 (by kernel_rfl) rfl #[.slice A0 l0.length c0, .int .i64 (rd t191 x5_1)] rfl (by (try simp only [List.map_toArray, List.map_cons, List.map_nil]); first | done | rfl | (simp only [List.length_drop, List.length_take]; rfl)) ?_; (with_reducible refine (galleyref02_Of.calls k1 _ _ l0 (rd t191 x5_1) t195 t196 t197 _ ?side1 ?side2 A7.out).mono ?_); (case side1 => repeat (first | exact (Kd.C_below HR0.out HB.out) | (with_reducible refine Kd.C_alloc ?_ _) | (with_reducible refine Kd.C_drewN ?_ _) | (with_reducible refine Kd.C_drew ?_))); (case side2 => exact HC0.out); rintro e w10 ⟨rfl, hb⟩; refine ⟨_, rfl, ?_⟩; have n0_ := Aside0.mk (Kd.R_below (by (with_reducible repeat (first | apply Kd.R_alloc | apply Kd.R_drewN | apply Kd.R_drew)); exact HO_3.out) hb); have n1_ := Aside0.mk (Kd.R_below (by (with_reducible repeat (first | apply Kd.R_alloc | apply Kd.R_drewN | apply Kd.R_drew)); exact HO_4.out) hb); have n2_ := Aside0.mk (below_step (bl HB.out) hb); clear HO_3; clear HO_4; clear HB; have HO_3 := n0_; have HO_4 := n1_; have HB := n2_; clear n0_ n1_ n2_; (try clear hb); (try clear hb2); (try clear hk); (try clear hi)) | ((with_reducible refine gate_builtin (b := .append) (xs := #[.tmp 15, .tmp 22]) rfl ?_); at_builtin; refine Kd.R_append k64 (w0 := w) w.heap.size rfl (.tmp 15) (.tmp 22) 60 64 (.agg #[(.int .i32 0), (.int .i64 0), (.bool false)]) 24 rfl Tryd.underlying60 info64 rfl (by decide) (by omega) u3 x3_1 (⟨t195, t196, t197⟩ : S64) [.int .i32 t195, .int .i64 t196, .bool t197] (fun _ => True) (fun _ => False) rfl rfl ?aP (fun _ hk => hk.elim) ?aF ?aO ?aB ?aS ?aL ?_; (case aP => exact k64_mkM _ _ _ (⟨t195, t196, t197⟩ : S64)); (case aB => exact (bl HB.out)); (case aF => exact (fun _ _ => trivial)); (case aO => exact (by (with_reducible repeat (first | apply Kd.R_alloc | apply Kd.R_drewN | apply Kd.R_drew)); exact HO_3.out)); (case aS => exact (below_size (bl HB.out))); (case aL => have := LMc8.out; omega); intro v199 w11 ho hb hg hat; rw [← Ny198.out] at ho; have n0_ := Aside0.mk (Kd.R_over' (by (with_reducible repeat (first | apply Kd.R_alloc | apply Kd.R_drewN | apply Kd.R_drew)); exact HO_4.out) (Kd.R_typed (by (with_reducible repeat (first | apply Kd.R_alloc | apply Kd.R_drewN | apply Kd.R_drew)); exact HO_3.out)) (by decide) hg); have n1_ := Aside0.mk (hb); have n2_ := Aside0.mk (ho); clear HO_4; clear HB; clear HO_3; have HO_4 := n0_; have HB := n1_; have HO200 := n2_; clear n0_ n1_ n2_; clear ho hb hg hat))
       go_roundg k1
       case measure => have := HK1.out; omega
       case rel => exact ⟨(y198), (wrap64 (x5_1 + 1)), (by first | rfl | (simp; done) | (simp [*]; done)), H', ⟨by have := HK1.out; omega⟩, ⟨by (with_reducible repeat (first | apply Kd.R_alloc | apply Kd.R_drewN | apply Kd.R_drew)); exact HO200.out⟩, ⟨by (with_reducible repeat (first | apply Kd.R_alloc | apply Kd.R_drewN | apply Kd.R_drew)); exact HO_4.out⟩, ⟨bl HB.out⟩⟩
      ·rw [if_neg c8] at H
       exact absurd H (by simp)
     ·rw [if_neg c6] at H
      exact absurd H (by simp)
    ·rw [if_neg c5] at H
     exact absurd H (by simp)
   ·rw [if_neg c4] at H
    have c4b0 : decide ((wrap64 (x5_1 + 1)) < (t191.length : Int)) = false := decide_eq_false c4
    clear c4
    obtain rfl := Option.some.inj H
    obtain ⟨Ao12, co12, eo12⟩ := Kd.R_slice HO_4.out
    subst eo12
    go_wp2
    go_ret
    exact ⟨_, by first | rfl | (simp [errW_none, errW_some] <;> rfl) | (simp [*, errW_none, errW_some] <;> rfl), by (with_reducible repeat (first | apply Kd.R_alloc | apply Kd.R_drewN | apply Kd.R_drew)); exact HO_3.out, bl HB.out⟩
def galleyref05_units.f (a0_0 : Int) (a0_1 : Int) (a0_2 : Bool) : Option (Int) := if a0_0 > 65535 then (some 2) else (some 1)
set_option maxHeartbeats 8000000 in
set_option maxRecDepth 100000 in
theorem galleyref05_units.calls (a0_0 : Int) (a0_1 : Int) (a0_2 : Bool) (r : Int) (w : World) (h : galleyref05_units.f a0_0 a0_1 a0_2 = some r) :
  Calls Tryd.prog 31 #[.agg #[.int .i32 a0_0, .int .i64 a0_1, .bool a0_2]] w fun e w' => e = .returned (.int .i64 r) ∧ Below w.heap.size w w' := by
 have hu64 := Tryd.underlying64
 have HB := Aside0.mk (Below.refl w.heap.size w)
 have H : (if a0_0 > 65535 then (some 2) else (some 1)) = some r := h
 clear h
 by_cases c2 : a0_0 > 65535
 ·rw [if_pos c2] at H
  have c2b0 : decide (65535 < a0_0) = true := decide_eq_true c2
  clear c2
  obtain rfl := Option.some.inj H
  go_enter Tryd.func31, Tryd.ntmps31
  go_wp2_with (first | ((with_reducible refine gate_dst (N := 1) rfl ?_); refine box_event ?hg (N := 1) ?hd (cs := #[.int .i32 a0_0, .int .i64 a0_1, .bool a0_2]) (t := 64) ?hr ?_; (case hd => rfl); (case hg => rfl); (case hr => first | (go_simp; done) | (go_simp; rfl)); intro gb201 hg w3 hbox hb; have n0_ := Aside0.mk (below_step (bl HB.out) hb); have n1_ := Aside0.mk (hbox); have n2_ := Aside0.mk ((by rw [hg]; exact (below_size (bl HB.out)) : w.heap.size ≤ gb201)); have n3_ := Aside0.mk ((by rw [hg]; exact (below_size (bl HB.out)) : w.heap.size ≤ gb201)); clear HB; have HB := n0_; have BK201 := n1_; have GW201 := n2_; have GE201 := n3_; clear n0_ n1_ n2_ n3_; clear hb hbox hg; have hcz4_0 : w3.cell? ⟨gb201, 0, none⟩ = some (.int .i32 a0_0) := (blk_cell BK201.out 0).trans rfl; have hcz4_1 : w3.cell? ⟨gb201, 1, none⟩ = some (.int .i64 a0_1) := (blk_cell BK201.out 1).trans rfl; have hcz4_2 : w3.cell? ⟨gb201, 2, none⟩ = some (.bool a0_2) := (blk_cell BK201.out 2).trans rfl; have hfz4_0 := blk_frozen BK201.out 0; have hfz4_1 := blk_frozen BK201.out 1; have hfz4_2 := blk_frozen BK201.out 2))
  go_ret
  exact ⟨by first | rfl | (simp [errW_none, errW_some] <;> rfl) | (simp [*, errW_none, errW_some] <;> rfl), by repeat (first | (with_reducible first | exact HB.out | apply below_alloc | apply pw_below_drewN | apply below_drew1 | refine below_set ?_ GE201.out) | exact HB.out)⟩
 ·rw [if_neg c2] at H
  have c2b0 : decide (65535 < a0_0) = false := decide_eq_false c2
  clear c2
  obtain rfl := Option.some.inj H
  go_enter Tryd.func31, Tryd.ntmps31
  go_wp2_with (first | ((with_reducible refine gate_dst (N := 1) rfl ?_); refine box_event ?hg (N := 1) ?hd (cs := #[.int .i32 a0_0, .int .i64 a0_1, .bool a0_2]) (t := 64) ?hr ?_; (case hd => rfl); (case hg => rfl); (case hr => first | (go_simp; done) | (go_simp; rfl)); intro gb201 hg w5 hbox hb; have n0_ := Aside0.mk (below_step (bl HB.out) hb); have n1_ := Aside0.mk (hbox); have n2_ := Aside0.mk ((by rw [hg]; exact (below_size (bl HB.out)) : w.heap.size ≤ gb201)); have n3_ := Aside0.mk ((by rw [hg]; exact (below_size (bl HB.out)) : w.heap.size ≤ gb201)); clear HB; have HB := n0_; have BK201 := n1_; have GW201 := n2_; have GE201 := n3_; clear n0_ n1_ n2_ n3_; clear hb hbox hg; have hcz6_0 : w5.cell? ⟨gb201, 0, none⟩ = some (.int .i32 a0_0) := (blk_cell BK201.out 0).trans rfl; have hcz6_1 : w5.cell? ⟨gb201, 1, none⟩ = some (.int .i64 a0_1) := (blk_cell BK201.out 1).trans rfl; have hcz6_2 : w5.cell? ⟨gb201, 2, none⟩ = some (.bool a0_2) := (blk_cell BK201.out 2).trans rfl; have hfz6_0 := blk_frozen BK201.out 0; have hfz6_1 := blk_frozen BK201.out 1; have hfz6_2 := blk_frozen BK201.out 2))
  go_ret
  exact ⟨by first | rfl | (simp [errW_none, errW_some] <;> rfl) | (simp [*, errW_none, errW_some] <;> rfl), by repeat (first | (with_reducible first | exact HB.out | apply below_alloc | apply pw_below_drewN | apply below_drew1 | refine below_set ?_ GE201.out) | exact HB.out)⟩
end Go.Proofs.YteoonhidjldnfaaDoor.Pr

namespace Go.Proofs.YteoonhidjldnfaaDoor.Pr
open Go.RowKit Go.Proofs.YteoonhidjldnfaaDoorW.PrintWords Go.Proofs.YteoonhidjldnfaaDoorW.PrintLast Go.Proofs.YteoonhidjldnfaaDoorW.PrintMore
attribute [local go_sem] max2_int min2_int max_two min_two max_three min_three max_four min_four   -- for this text's walks alone
set_option linter.unusedVariables false
set_option linter.unusedSimpArgs false
mutual
def galleyref05_Sizes.l0 : Nat → List Int → List (S64) → Int → Int → Int → Int → Int → Option (Int × Int × Int × Int)
 | 0, _, _, _, _, _, _, _ => none
 | k + 1, x0, x4, x5, x204000, x204001, x204002, x204003 => if x5 < (x4.length : Int) then (if 0 ≤ x5 then ((galleyref05_units.f ((rd_T64 x4 x5).f0) ((rd_T64 x4 x5).f1) ((rd_T64 x4 x5).f2)).bind fun t208 => (galleyref05_Sizes.l0 k x0 x4 (wrap64 (x5 + 1)) x204000 (wrap64 (x204001 + 1)) (wrap64 (x204002 + t208)) x204003)) else (none)) else (galleyref05_Sizes.l1 k x0 0 x204000 x204001 x204002 x204003)
def galleyref05_Sizes.l1 : Nat → List Int → Int → Int → Int → Int → Int → Option (Int × Int × Int × Int)
 | 0, _, _, _, _, _, _ => none
 | k + 1, x0, x6, x204000, x204001, x204002, x204003 => if x6 < (x0.length : Int) then (if 0 ≤ x6 then (if (rd x0 x6) = 10 then (if x6 = 0 then (galleyref05_Sizes.l1 k x0 (wrap64 (x6 + 1)) x204000 x204001 x204002 (wrap64 (x204003 + 1))) else (if 0 ≤ (wrap64 (x6 - 1)) then (if (wrap64 (x6 - 1)) < (x0.length : Int) then (if (rd x0 (wrap64 (x6 - 1))) = 13 then (if (rd x0 x6) = 13 then (galleyref05_Sizes.l1 k x0 (wrap64 (x6 + 1)) x204000 x204001 x204002 (wrap64 (x204003 + 1))) else (galleyref05_Sizes.l1 k x0 (wrap64 (x6 + 1)) x204000 x204001 x204002 x204003)) else (galleyref05_Sizes.l1 k x0 (wrap64 (x6 + 1)) x204000 x204001 x204002 (wrap64 (x204003 + 1)))) else (none)) else (none))) else (if (rd x0 x6) = 13 then (galleyref05_Sizes.l1 k x0 (wrap64 (x6 + 1)) x204000 x204001 x204002 (wrap64 (x204003 + 1))) else (galleyref05_Sizes.l1 k x0 (wrap64 (x6 + 1)) x204000 x204001 x204002 x204003))) else (none)) else (some (x204000, x204001, x204002, x204003))
end
def galleyref05_Sizes.f (k : Nat) (l0 : List Int) : Option (Int × Int × Int × Int) := (galleyref02_Steps.f k l0).bind fun t204 => (galleyref05_Sizes.l0 k l0 t204 0 (l0.length : Int) 0 0 0)
def galleyref05_Sizes.T7 : Bool × List (List Nat × List Nat) := (true, [([], []), ([0], [0]), ([], []), ([], []), ([2, 3], [2, 3]), ([4], [4]), ([5], [5]), ([1, 6], [1, 6]), ([0, 1, 2, 3, 4, 5, 6, 7], []), ([8, 7, 6, 0, 1, 2, 3, 4, 5, 6, 7], [7, 8])])
def galleyref05_Sizes.B7 : List Nat := [0, 1, 0, 0, 12, 28, 60, 127, 255, 511]
theorem galleyref05_Sizes.tab7 : rtab .any (opsOf Tryd.f16 7) = galleyref05_Sizes.T7 := by kernel_rfl
theorem galleyref05_Sizes.bits7 : waitsOk galleyref05_Sizes.T7.2 galleyref05_Sizes.B7 = true := by kernel_rfl
set_option maxHeartbeats 8000000 in
set_option maxRecDepth 100000 in
theorem galleyref05_Sizes.calls (k : Nat) (A0 : Option Addr) (c0 : Nat) (l0 : List Int) (r1 : Int) (r2 : Int) (r3 : Int) (r4 : Int) (w : World) (hr0 : Kd.C (Kd.int .u8) w A0 l0.length l0) (hc0 : l0.length ≤ c0) (h : galleyref05_Sizes.f k l0 = some (r1, r2, r3, r4)) :
  Calls Tryd.prog 16 #[.slice A0 l0.length c0] w fun e w' => e = .returned (.agg #[.int .i64 r1, .int .i64 r2, .int .i64 r3, .int .i64 r4]) ∧ Below w.heap.size w w' := by
 have hu34 := Tryd.underlying34
 have hu64 := Tryd.underlying64
 have HR0 := Aside0.mk hr0; have HC0 := Aside0.mk hc0; clear hr0 hc0
 have HB := Aside0.mk (Below.refl w.heap.size w)
 have H : ((galleyref02_Steps.f k l0).bind fun t204 => (galleyref05_Sizes.l0 k l0 t204 0 (l0.length : Int) 0 0 0)) = some (r1, r2, r3, r4) := h
 clear h
 replace H := Option.bind_eq_some_iff.mp H
 obtain ⟨t204, A20, H⟩ := H
 have A2 := Aside0.mk A20; clear A20; have H' := Aside0.mk H; clear H
 go_enter Tryd.func16, Tryd.ntmps16
 go_wp2_with (first | ((with_reducible refine gate_dst (N := 2) rfl ?_); refine box_event ?hg (N := 2) ?hd (cs := #[.int .i64 0, .int .i64 0, .int .i64 0, .int .i64 0]) (t := 34) ?hr ?_; (case hd => rfl); (case hg => rfl); (case hr => first | (go_simp; done) | (go_simp; rfl)); intro gb202 hg w3 hbox hb; have n0_ := Aside0.mk (below_step (bl HB.out) hb); have n1_ := Aside0.mk (hbox); have n2_ := Aside0.mk ((by rw [hg]; exact (below_size (bl HB.out)) : w.heap.size ≤ gb202)); have n3_ := Aside0.mk ((by rw [hg]; exact (below_size (bl HB.out)) : w.heap.size ≤ gb202)); clear HB; have HB := n0_; have BK202 := n1_; have GW202 := n2_; have GE202 := n3_; clear n0_ n1_ n2_ n3_; clear hb hbox hg) | ((with_reducible refine gate_dst (N := 3) rfl ?_); refine box_event ?hg (N := 3) ?hd (cs := #[.int .i64 0, .int .i64 0, .int .i64 0, .int .i64 0]) (t := 34) ?hr ?_; (case hd => rfl); (case hg => rfl); (case hr => first | (go_simp; done) | (go_simp; rfl)); intro gb203 hg w4 hbox hb; have n0_ := Aside0.mk (blk_below (pl BK202.out) hb); have n1_ := Aside0.mk (below_step (by repeat (first | (with_reducible first | exact HB.out | apply below_alloc | apply pw_below_drewN | apply below_drew1 | refine below_set ?_ GE202.out) | exact HB.out)) hb); have n2_ := Aside0.mk (hbox); have n3_ := Aside0.mk ((by rw [hg]; exact (below_size (by repeat (first | (with_reducible first | exact HB.out | apply below_alloc | apply pw_below_drewN | apply below_drew1 | refine below_set ?_ GE202.out) | exact HB.out))) : w.heap.size ≤ gb203)); have n4_ := Aside0.mk ((by rw [hg]; exact (below_size (by repeat (first | (with_reducible first | exact HB.out | apply below_alloc | apply pw_below_drewN | apply below_drew1 | refine below_set ?_ GE202.out) | exact HB.out))) : w.heap.size ≤ gb203)); have n5_ := Aside0.mk ((by rw [hg]; exact Nat.ne_of_lt (blk_lt (pl BK202.out)) : gb202 ≠ gb203)); have n6_ := Aside0.mk ((by rw [hg]; exact Nat.ne_of_gt (blk_lt (pl BK202.out)) : gb203 ≠ gb202)); clear BK202; clear HB; have BK202 := n0_; have HB := n1_; have BK203 := n2_; have GW203 := n3_; have GE203 := n4_; have NB202_203 := n5_; have NB203_202 := n6_; clear n0_ n1_ n2_ n3_ n4_ n5_ n6_; clear hb hbox hg; have hnb5 := NB203_202.out; have hnc5 := NB202_203.out; obtain ⟨hcz6_0, hcz6_1, hcz6_2, hcz6_3⟩ := cl4 BK203.out; obtain ⟨hfz6_0, hfz6_1, hfz6_2, hfz6_3⟩ := fl4 BK203.out) | ((with_reducible refine gate_callee (f := 30) rfl ?_); refine goesL_ (some 11) rfl rfl Tryd.func30 (by kernel_rfl) rfl #[.slice A0 l0.length c0] rfl (by (try simp only [List.map_toArray, List.map_cons, List.map_nil]); first | done | rfl | (simp only [List.length_drop, List.length_take]; rfl)) ?_; (with_reducible refine (galleyref02_Steps.calls k _ _ l0 t204 _ ?side1 ?side2 A2.out).mono ?_); (case side1 => exact Kd.C_below HR0.out (by repeat (first | (with_reducible first | exact HB.out | apply below_alloc | apply pw_below_drewN | apply below_drew1 | refine below_set ?_ GE202.out | refine below_set ?_ GE203.out) | exact HB.out))); (case side2 => exact HC0.out); rintro e w7 ⟨v205, rfl, ho0, hb⟩; refine ⟨_, rfl, ?_⟩; have n0_ := Aside0.mk (Kd.R_lower ho0 (below_size (by repeat (first | (with_reducible first | exact HB.out | apply below_alloc | apply pw_below_drewN | apply below_drew1 | refine below_set ?_ GE202.out | refine below_set ?_ GE203.out) | exact HB.out)))); have n1_ := Aside0.mk (blk_below (g := gb202) (o := .cells #[.int .i64 0, .int .i64 0, .int .i64 0, .int .i64 0] 34 (0, 0)) (by refine pl ?_; refine blk_far ?_ NB202_203.out _; refine pl ?_; refine blk_far ?_ NB202_203.out _; refine pl ?_; refine blk_far ?_ NB202_203.out _; refine pl ?_; refine blk_far ?_ NB202_203.out _; refine pl ?_; exact BK202.out) hb); have n2_ := Aside0.mk (blk_below (g := gb203) (o := .cells #[.int .i64 (l0.length : Int), .int .i64 0, .int .i64 0, .int .i64 0] 34 (0, 0)) (by refine pl ?_; refine blk_put (cs := #[.int .i64 (l0.length : Int), .int .i64 0, .int .i64 0, .int .i64 0]) ?_ 3 _ rfl; refine pl ?_; refine blk_put (cs := #[.int .i64 (l0.length : Int), .int .i64 0, .int .i64 0, .int .i64 0]) ?_ 2 _ rfl; refine pl ?_; refine blk_put (cs := #[.int .i64 (l0.length : Int), .int .i64 0, .int .i64 0, .int .i64 0]) ?_ 1 _ rfl; refine pl ?_; refine blk_put (cs := #[.int .i64 0, .int .i64 0, .int .i64 0, .int .i64 0]) ?_ 0 _ rfl; refine pl ?_; exact BK203.out) hb); have n3_ := Aside0.mk (below_step (by repeat (first | (with_reducible first | exact HB.out | apply below_alloc | apply pw_below_drewN | apply below_drew1 | refine below_set ?_ GE202.out | refine below_set ?_ GE203.out) | exact HB.out)) hb); clear BK202; clear BK203; clear HB; have HO206 := n0_; have BK202 := n1_; have BK203 := n2_; have HB := n3_; clear n0_ n1_ n2_ n3_; (try clear hb); (try clear hb2); (try clear hk); (try clear hi); (try clear ho0)))
 go_loopg [5] k (fun kq v5 w' => ∃ (x5_1 : Int) (x204001_1 : Int) (x204002_1 : Int), v5 = .int .i64 x5_1 ∧ Aside0 (galleyref05_Sizes.l0 kq l0 t204 x5_1 (l0.length : Int) x204001_1 x204002_1 0 = some (r1, r2, r3, r4)) ∧ Aside0 (kq ≤ k) ∧ Aside0 (Kd.R k64 64 w' w.heap.size (fun _ => True) v205 t204) ∧ Aside0 (w'.heap[gb202]? = some (.cells #[.int .i64 0, .int .i64 0, .int .i64 0, .int .i64 0] 34 (0, 0))) ∧ Aside0 (w'.heap[gb203]? = some (.cells #[.int .i64 (l0.length : Int), .int .i64 x204001_1, .int .i64 x204002_1, .int .i64 0] 34 (0, 0))) ∧ Aside0 (Below w.heap.size w w'))
 case atStart => exact ⟨(0), (0), (0), (by first | rfl | (simp; done) | (simp [*]; done)), H', ⟨Nat.le_refl _⟩, ⟨by (with_reducible repeat (first | apply Kd.R_alloc | apply Kd.R_drewN | apply Kd.R_drew)); exact HO206.out⟩, ⟨pl BK202.out⟩, ⟨pl BK203.out⟩, ⟨by repeat (first | (with_reducible first | exact HB.out | apply below_alloc | apply pw_below_drewN | apply below_drew1 | refine below_set ?_ GE202.out | refine below_set ?_ GE203.out) | exact HB.out)⟩⟩
 case round =>
  clear H'
  (try clear c1); (try clear p2); (try clear c3); (try clear c5); (try clear hcz6_0); (try clear hcz6_1); (try clear hcz6_2); (try clear hcz6_3); (try clear hfz6_0); (try clear hfz6_1); (try clear hfz6_2); (try clear hfz6_3)
  obtain ⟨x5_1, x204001_1, x204002_1, rfl, HA, HK1, HO_4, BK202, BK203, HB⟩ := hrel
  cases gk with
  | zero => exact absurd HA.out (by simp [galleyref05_Sizes.l0])
  | succ k1 =>
   have H := HA.out; clear HA
   simp only [galleyref05_Sizes.l0] at H
   by_cases c8 : x5_1 < (t204.length : Int)
   ·rw [if_pos c8] at H
    have c8b0 : decide (x5_1 < (t204.length : Int)) = true := decide_eq_true c8
    clear c8
    by_cases c9 : 0 ≤ x5_1
    ·rw [if_pos c9] at H
     have c9b0 : decide (0 ≤ x5_1) = true := decide_eq_true c9
     clear c9
     replace H := Option.bind_eq_some_iff.mp H
     obtain ⟨t208, A100, H⟩ := H
     have A10 := Aside0.mk A100; clear A100; have H' := Aside0.mk H; clear H
     obtain ⟨Ao11, co11, eo11⟩ := Kd.R_slice HO_4.out
     subst eo11
     have hnb12 := NB203_202.out; have hnc12 := NB202_203.out; obtain ⟨hcz13_0, hcz13_1, hcz13_2, hcz13_3⟩ := cl4 BK203.out; obtain ⟨hfz13_0, hfz13_1, hfz13_2, hfz13_3⟩ := fl4 BK203.out
     try go_wp2
     have n0_ : Aside0 (Kd.R k64 64 (wr.setCell ⟨gb203, 1, none⟩ (.int .i64 (wrap64 (x204001_1 + 1)))) w.heap.size (fun _ => True) (.slice Ao11 t204.length co11) t204) := ⟨by (with_reducible repeat (first | apply Kd.R_alloc | apply Kd.R_drewN | apply Kd.R_drew)); exact Kd.R_mono (Kd.R_far (p := ⟨gb203, 1, none⟩) (Kd.R_types HO_4.out BK203.out (by decide)) (fun _ hk => hk.2) (.int .i64 (wrap64 (x204001_1 + 1)))) (fun _ hk => trivial)⟩
     have n1_ : Aside0 ((wr.setCell ⟨gb203, 1, none⟩ (.int .i64 (wrap64 (x204001_1 + 1)))).heap[gb202]? = some (.cells #[.int .i64 0, .int .i64 0, .int .i64 0, .int .i64 0] 34 (0, 0))) := ⟨by refine pl ?_; refine blk_far ?_ NB202_203.out _; refine pl ?_; exact BK202.out⟩
     have n2_ : Aside0 ((wr.setCell ⟨gb203, 1, none⟩ (.int .i64 (wrap64 (x204001_1 + 1)))).heap[gb203]? = some (.cells #[.int .i64 (l0.length : Int), .int .i64 (wrap64 (x204001_1 + 1)), .int .i64 x204002_1, .int .i64 0] 34 (0, 0))) := ⟨by refine pl ?_; refine blk_put (cs := #[.int .i64 (l0.length : Int), .int .i64 x204001_1, .int .i64 x204002_1, .int .i64 0]) ?_ 1 _ rfl; refine pl ?_; exact BK203.out⟩
     have n3_ : Aside0 (Below w.heap.size w (wr.setCell ⟨gb203, 1, none⟩ (.int .i64 (wrap64 (x204001_1 + 1))))) := ⟨by repeat (first | (with_reducible first | exact HB.out | apply below_alloc | apply pw_below_drewN | apply below_drew1 | refine below_set ?_ GE202.out | refine below_set ?_ GE203.out) | exact HB.out)⟩
     (try clear HO_4)
     (try clear BK202)
     (try clear BK203)
     (try clear HB)
     generalize (wr.setCell ⟨gb203, 1, none⟩ (.int .i64 (wrap64 (x204001_1 + 1)))) = w14 at n0_ n1_ n2_ n3_ ⊢
     have HO_4 := n0_; have BK202 := n1_; have BK203 := n2_; have HB := n3_; clear n0_ n1_ n2_ n3_
     have n0_ := Aside0.mk (Kd.R_drew HO_4.out)
     have n1_ := Aside0.mk (blk_drew BK202.out)
     have n2_ := Aside0.mk (blk_drew BK203.out)
     have n3_ := Aside0.mk (below_drew1 HB.out)
     clear HO_4; clear BK202; clear BK203; clear HB; have HO_4 := n0_; have BK202 := n1_; have BK203 := n2_; have HB := n3_; clear n0_ n1_ n2_ n3_
     have p207 : 0 ≤ (x5_1 : Int) := of_decide_eq_true (by first | (with_reducible assumption) | assumption)
     have q207 : x5_1 < (t204.length : Int) := of_decide_eq_true (by first | (with_reducible assumption) | assumption)
     obtain ⟨ad207, e207, hx207_0, hx207_1, hx207_2⟩ := at_T64 (Kd.R_reads' HO_4.out).2.2 x5_1 p207 q207
     cases e207
     replace p207 := eq_true p207
     replace q207 := eq_true q207
     refine start_ (n := 10) (S := fun w' => w'.cell? ⟨gb203, 0, none⟩ = some (.int .i64 (l0.length : Int)) ∧ w'.cell? ⟨gb203, 1, none⟩ = some (.int .i64 (wrap64 (x204001_1 + 1))) ∧ w'.cell? ⟨gb203, 2, none⟩ = some (.int .i64 x204002_1) ∧ w'.cell? ⟨gb203, 3, none⟩ = some (.int .i64 0) ∧ w'.cell? (ad207.add ((x5_1).toNat * 3)) = some (.int .i32 ((rd_T64 t204 x5_1).f0)) ∧ w'.cell? ⟨(ad207.add ((x5_1).toNat * 3)).block, (ad207.add ((x5_1).toNat * 3)).off + 1, none⟩ = some (.int .i64 ((rd_T64 t204 x5_1).f1)) ∧ w'.cell? ⟨(ad207.add ((x5_1).toNat * 3)).block, (ad207.add ((x5_1).toNat * 3)).off + 2, none⟩ = some (.bool ((rd_T64 t204 x5_1).f2))) (ds := [9]) #[false, false, false, false, false, false, false, false, false, false] (by kernel_rfl) rfl rfl ⟨(blk_cell BK203.out 0).trans rfl, (blk_cell BK203.out 1).trans rfl, (blk_cell BK203.out 2).trans rfl, (blk_cell BK203.out 3).trans rfl, hx207_0, hx207_1, hx207_2⟩ (fun hHeld => ?_); refine with_tabW galleyref05_Sizes.tab7 galleyref05_Sizes.bits7 (fun HT_ HW_ => ?_)
     generalize w14.drew = w15 at HO_4 BK202 BK203 HB hx207_0 hx207_1 hx207_2 hHeld ⊢
     refine pure_ (i := 0) (N := some 22) (v := ?_) (a' := ?_) #[true, false, false, false, false, false, false, false, false, false] rfl rfl (any_of HT_.out (by kernel_rfl)) (fun _ _ _ h => h) (Or.inl ⟨by rfl, ?_⟩) ?_ ?_
     rotate_left
     ·intro w'
      go_simp
      with_reducible rfl
     rotate_left
     ·simp only [Act.put, List.setIfInBounds_toArray, List.set_cons_zero, List.set_cons_succ, i64_w, i32_w]
      rfl
     refine pure_ (i := 2) (N := some 24) (v := ?_) (a' := ?_) #[true, false, true, false, false, false, false, false, false, false] rfl rfl (any_of HT_.out (by kernel_rfl)) (fun _ _ _ h => h) (Or.inl ⟨by rfl, ?_⟩) ?_ ?_
     rotate_left
     ·intro w'
      go_simp
      with_reducible rfl
     rotate_left
     ·simp only [Act.put, List.setIfInBounds_toArray, List.set_cons_zero, List.set_cons_succ, i64_w, i32_w]
      rfl
     refine pure_ (i := 3) (N := some 25) (v := ?_) (a' := ?_) #[true, false, true, true, false, false, false, false, false, false] rfl rfl (any_of HT_.out (by kernel_rfl)) (fun _ _ _ h => h) (Or.inl ⟨by rfl, ?_⟩) ?_ ?_
     rotate_left
     ·intro w'
      go_simp
      with_reducible rfl
     rotate_left
     ·simp only [Act.put, List.setIfInBounds_toArray, List.set_cons_zero, List.set_cons_succ, i64_w, i32_w]
      rfl
     refine pure_ (i := 4) (N := some 26) (v := ?_) (a' := ?_) #[true, false, true, true, true, false, false, false, false, false] rfl rfl (any_of HT_.out (by kernel_rfl)) (fun _ _ _ h => h) (Or.inl ⟨by rfl, ?_⟩) ?_ ?_
     rotate_left
     ·intro w'
      go_simp
      with_reducible rfl
     rotate_left
     ·simp only [Act.put, List.setIfInBounds_toArray, List.set_cons_zero, List.set_cons_succ, i64_w, i32_w]
      rfl
     refine take_ (i := 1) (N := some 23) (v := ?_) (a' := ?_) #[true, true, true, true, true, false, false, false, false, false] rfl rfl (take_ofW HT_.out HW_.out (by kernel_rfl)) (fun _ _ _ h => h) (Or.inl ⟨by rfl, ?_⟩) hHeld ?_ ?_
     rotate_left
     ·rintro w' ⟨s0, s1, s2, s3, s4, s5, s6⟩
      go_simp
      with_reducible rfl
     rotate_left
     ·simp only [Act.put, List.setIfInBounds_toArray, List.set_cons_zero, List.set_cons_succ, i64_w, i32_w]
      rfl
     refine take_ (i := 5) (N := some 27) (v := ?_) (a' := ?_) #[true, true, true, true, true, true, false, false, false, false] rfl rfl (take_ofW HT_.out HW_.out (by kernel_rfl)) (fun _ _ _ h => h) (Or.inl ⟨by rfl, ?_⟩) hHeld ?_ ?_
     rotate_left
     ·rintro w' ⟨s0, s1, s2, s3, s4, s5, s6⟩
      go_simp
      with_reducible rfl
     rotate_left
     ·simp only [Act.put, List.setIfInBounds_toArray, List.set_cons_zero, List.set_cons_succ, i64_w, i32_w]
      rfl
     refine one_ (i := 6) (N := some 28) #[true, true, true, true, true, true, true, false, false, false] rfl rfl (one_of HT_.out (by kernel_rfl)) (by decide) (fun K hK => ?_)
     refine goes_ Tryd.func31 (by kernel_rfl) rfl #[.agg #[.int .i32 ((rd_T64 t204 x5_1).f0), .int .i64 ((rd_T64 t204 x5_1).f1), .bool ((rd_T64 t204 x5_1).f2)]] (by rfl) rfl rfl (by (try simp only [List.map_toArray, List.map_cons, List.map_nil]); first | done | rfl | (simp only [List.length_drop, List.length_take]; rfl)) ?_
     with_reducible refine (galleyref05_units.calls ((rd_T64 t204 x5_1).f0) ((rd_T64 t204 x5_1).f1) ((rd_T64 t204 x5_1).f2) t208 _ A10.out).mono ?_
     rintro e w16 ⟨rfl, hb⟩
     have HS4_ := (hb.cell (World.block_lt_of_cell? _ _ (hHeld.2.2.2.2.1))).trans (hHeld.2.2.2.2.1)
     have HS5_ := (hb.cell (World.block_lt_of_cell? _ _ (hHeld.2.2.2.2.2.1))).trans (hHeld.2.2.2.2.2.1)
     have HS6_ := (hb.cell (World.block_lt_of_cell? _ _ (hHeld.2.2.2.2.2.2))).trans (hHeld.2.2.2.2.2.2)
     refine ⟨_, rfl, ?_⟩
     have n0_ := Aside0.mk (Kd.R_below (by (with_reducible repeat (first | apply Kd.R_alloc | apply Kd.R_drewN | apply Kd.R_drew)); exact HO_4.out) hb)
     have n1_ := Aside0.mk (blk_below (pl BK202.out) hb)
     have n2_ := Aside0.mk (blk_below (pl BK203.out) hb)
     have n3_ := Aside0.mk (below_step (by repeat (first | (with_reducible first | exact HB.out | apply below_alloc | apply pw_below_drewN | apply below_drew1 | refine below_set ?_ GE202.out | refine below_set ?_ GE203.out) | exact HB.out)) hb)
     clear HO_4; clear BK202; clear BK203; clear HB; have HO_4 := n0_; have BK202 := n1_; have BK203 := n2_; have HB := n3_; clear n0_ n1_ n2_ n3_
     (try clear hb)
     (try clear hb2)
     (try clear hk)
     (try clear hi)
     refine hK.out _ _ ⟨(blk_cell BK203.out 0).trans rfl, (blk_cell BK203.out 1).trans rfl, (blk_cell BK203.out 2).trans rfl, (blk_cell BK203.out 3).trans rfl, HS4_, HS5_, HS6_⟩ (fun hHeld => ?_)
     clear hK K
     refine norm_ (a' := ?_) ?_ ?_
     rotate_left
     ·show Act.put _ (some 28) _ = _
      simp only [Act.put, List.setIfInBounds_toArray, List.set_cons_zero, List.set_cons_succ, i64_w, i32_w]
      rfl
     refine pure_ (i := 7) (N := some 29) (v := ?_) (a' := ?_) #[true, true, true, true, true, true, true, true, false, false] rfl rfl (any_of HT_.out (by kernel_rfl)) (fun _ _ _ h => h) (Or.inl ⟨by rfl, ?_⟩) ?_ ?_
     rotate_left
     ·intro w'
      go_simp
      with_reducible rfl
     rotate_left
     ·simp only [Act.put, List.setIfInBounds_toArray, List.set_cons_zero, List.set_cons_succ, i64_w, i32_w]
      rfl
     refine pure_ (i := 8) (N := some 30) (v := ?_) (a' := ?_) #[true, true, true, true, true, true, true, true, true, false] rfl rfl (any_of HT_.out (by kernel_rfl)) (fun _ _ _ h => h) (Or.inl ⟨by rfl, ?_⟩) ?_ ?_
     rotate_left
     ·intro w'
      go_simp
      with_reducible rfl
     rotate_left
     ·simp only [Act.put, List.setIfInBounds_toArray, List.set_cons_zero, List.set_cons_succ, i64_w, i32_w]
      rfl
     refine last_ (i := 9) (N := none) #[true, true, true, true, true, true, true, true, true, true] rfl rfl (one_of HT_.out (by kernel_rfl)) (by decide) (fun K hK => ?_)
     have hs17 : w16.cell? ⟨gb203, 2, none⟩ = some (.int .i64 x204002_1) := (blk_cell BK203.out 2).trans rfl
     have hfs17 := blk_frozen BK203.out 2
     have hns17_0 := NB202_203.out; have hms17_0 := NB203_202.out
     refine skip_ (w1 := ?_) (by rfl) rfl ?_ ?_
     rotate_left
     ·go_simp
      rfl
     refine hK.out _ _ ?_
     clear hK K
     refine done_ (done_of HT_.out (by kernel_rfl)) ?_
     try go_wp2
     go_roundg k1
     case measure => have := HK1.out; omega
     case rel => exact ⟨(wrap64 (x5_1 + 1)), (wrap64 (x204001_1 + 1)), (wrap64 (x204002_1 + t208)), (by first | rfl | (simp; done) | (simp [*]; done)), H', ⟨by have := HK1.out; omega⟩, ⟨by (with_reducible repeat (first | apply Kd.R_alloc | apply Kd.R_drewN | apply Kd.R_drew)); exact Kd.R_mono (Kd.R_far (p := ⟨gb203, 2, none⟩) (Kd.R_types HO_4.out BK203.out (by decide)) (fun _ hk => hk.2) (.int .i64 (wrap64 (x204002_1 + t208)))) (fun _ hk => trivial)⟩, ⟨by refine pl ?_; refine blk_far ?_ NB202_203.out _; refine pl ?_; exact BK202.out⟩, ⟨by refine pl ?_; refine blk_put (cs := #[.int .i64 (l0.length : Int), .int .i64 (wrap64 (x204001_1 + 1)), .int .i64 x204002_1, .int .i64 0]) ?_ 2 _ rfl; refine pl ?_; exact BK203.out⟩, ⟨by repeat (first | (with_reducible first | exact HB.out | apply below_alloc | apply pw_below_drewN | apply below_drew1 | refine below_set ?_ GE202.out | refine below_set ?_ GE203.out) | exact HB.out)⟩⟩
    ·rw [if_neg c9] at H
     exact absurd H (by simp)
   ·rw [if_neg c8] at H
    have c8b0 : decide (x5_1 < (t204.length : Int)) = false := decide_eq_false c8
    clear c8; have H' := Aside0.mk H; clear H
    obtain ⟨Ao18, co18, eo18⟩ := Kd.R_slice HO_4.out
    subst eo18
    go_wp2
    go_loopg [6] k1 (fun kq v6 w' => ∃ (x6_2 : Int) (x204003_2 : Int), v6 = .int .i64 x6_2 ∧ Aside0 (galleyref05_Sizes.l1 kq l0 x6_2 (l0.length : Int) x204001_1 x204002_1 x204003_2 = some (r1, r2, r3, r4)) ∧ Aside0 (kq ≤ k1) ∧ Aside0 (w'.heap[gb202]? = some (.cells #[.int .i64 0, .int .i64 0, .int .i64 0, .int .i64 0] 34 (0, 0))) ∧ Aside0 (w'.heap[gb203]? = some (.cells #[.int .i64 (l0.length : Int), .int .i64 x204001_1, .int .i64 x204002_1, .int .i64 x204003_2] 34 (0, 0))) ∧ Aside0 (Below w.heap.size w w'))
    case atStart => exact ⟨(0), (0), (by first | rfl | (simp; done) | (simp [*]; done)), H', ⟨Nat.le_refl _⟩, ⟨pl BK202.out⟩, ⟨pl BK203.out⟩, ⟨by repeat (first | (with_reducible first | exact HB.out | apply below_alloc | apply pw_below_drewN | apply below_drew1 | refine below_set ?_ GE202.out | refine below_set ?_ GE203.out) | exact HB.out)⟩⟩
    case round =>
     clear H'
     (try clear c1); (try clear p2); (try clear q2); (try clear hx2); (try clear c3); (try clear c5); (try clear p6); (try clear c8); (try clear c8b0); (try clear c9); (try clear c9b0); (try clear c12); (try clear c16); (try clear hcz13_0); (try clear hcz13_1); (try clear hcz13_2); (try clear hcz13_3); (try clear hcz6_0); (try clear hcz6_1); (try clear hcz6_2); (try clear hcz6_3); (try clear hfz13_0); (try clear hfz13_1); (try clear hfz13_2); (try clear hfz13_3); (try clear hfz6_0); (try clear hfz6_1); (try clear hfz6_2); (try clear hfz6_3); (try clear hx207_0); (try clear hx207_1); (try clear hx207_2); (try clear p2); (try clear p207); (try clear q207)
     obtain ⟨x6_2, x204003_2, rfl, HA, HK2, BK202, BK203, HB⟩ := hrel
     cases gk with
     | zero => exact absurd HA.out (by simp [galleyref05_Sizes.l1])
     | succ k2 =>
      have H := HA.out; clear HA
      simp only [galleyref05_Sizes.l1] at H
      by_cases c19 : x6_2 < (l0.length : Int)
      ·rw [if_pos c19] at H
       have c19b0 : decide (x6_2 < (l0.length : Int)) = true := decide_eq_true c19
       clear c19
       by_cases c20 : 0 ≤ x6_2
       ·rw [if_pos c20] at H
        have c20b0 : decide (0 ≤ x6_2) = true := decide_eq_true c20
        clear c20
        by_cases c21 : (rd l0 x6_2) = 10
        ·rw [if_pos c21] at H
         have c21b0 : ((rd l0 x6_2) == 10) = true := beq_iff_eq.mpr c21
         have c21b1 : ((rd l0 x6_2) != 10) = false := bne_eq_false_iff_eq.mpr c21
         clear c21
         by_cases c22 : x6_2 = 0
         ·rw [if_pos c22] at H
          have c22b0 : (x6_2 == 0) = true := beq_iff_eq.mpr c22
          have c22b1 : (x6_2 != 0) = false := bne_eq_false_iff_eq.mpr c22
          clear c22; have H' := Aside0.mk H; clear H
          have p209 : 0 ≤ (x6_2 : Int) := of_decide_eq_true (by first | (with_reducible assumption) | assumption)
          have q209 : x6_2 < (l0.length : Int) := of_decide_eq_true (by first | (with_reducible assumption) | assumption)
          obtain ⟨ad209, e209, hx209_0⟩ := Kd.at_int HR0.out x6_2 p209 q209
          cases e209
          replace hx209_0 := (HB.out.cell (World.block_lt_of_cell? w _ hx209_0)).trans hx209_0
          replace p209 := eq_true p209
          replace q209 := eq_true q209
          have hnb23 := NB203_202.out; have hnc23 := NB202_203.out; obtain ⟨hcz24_0, hcz24_1, hcz24_2, hcz24_3⟩ := cl4 BK203.out; obtain ⟨hfz24_0, hfz24_1, hfz24_2, hfz24_3⟩ := fl4 BK203.out
          go_wp2
          go_roundg k2
          case measure => have := HK1.out; have := HK2.out; omega
          case rel => exact ⟨(wrap64 (x6_2 + 1)), (wrap64 (x204003_2 + 1)), (by first | rfl | (simp; done) | (simp [*]; done)), H', ⟨by have := HK1.out; have := HK2.out; omega⟩, ⟨by refine pl ?_; refine blk_far ?_ NB202_203.out _; refine pl ?_; exact BK202.out⟩, ⟨by refine pl ?_; refine blk_put (cs := #[.int .i64 (l0.length : Int), .int .i64 x204001_1, .int .i64 x204002_1, .int .i64 x204003_2]) ?_ 3 _ rfl; refine pl ?_; exact BK203.out⟩, ⟨by repeat (first | (with_reducible first | exact HB.out | apply below_alloc | apply pw_below_drewN | apply below_drew1 | refine below_set ?_ GE202.out | refine below_set ?_ GE203.out) | exact HB.out)⟩⟩
         ·rw [if_neg c22] at H
          have c22b0 : (x6_2 == 0) = false := beq_eq_false_iff_ne.mpr c22
          have c22b1 : (x6_2 != 0) = true := bne_iff_ne.mpr c22
          obtain ⟨ji25, hji25⟩ : ∃ j_ : Int, (wrap64 (x6_2 - 1)) = j_ := ⟨_, rfl⟩
          replace H : (if 0 ≤ (ji25) then (if (ji25) < (l0.length : Int) then (if (rd l0 (ji25)) = 13 then (if (rd l0 x6_2) = 13 then (galleyref05_Sizes.l1 k2 l0 (wrap64 (x6_2 + 1)) (l0.length : Int) x204001_1 x204002_1 (wrap64 (x204003_2 + 1))) else (galleyref05_Sizes.l1 k2 l0 (wrap64 (x6_2 + 1)) (l0.length : Int) x204001_1 x204002_1 x204003_2)) else (galleyref05_Sizes.l1 k2 l0 (wrap64 (x6_2 + 1)) (l0.length : Int) x204001_1 x204002_1 (wrap64 (x204003_2 + 1)))) else (none)) else (none)) = some (r1, r2, r3, r4) := by first | (rw [hji25] at H; exact H) | (simp only [hji25] at H ⊢; exact H)
          have hji25w : (IntKind.i64.wrap (x6_2 - 1)) = ji25 := (i64_w _).trans hji25
          by_cases c26 : 0 ≤ (ji25)
          ·rw [if_pos c26] at H
           have c26b0 : decide (0 ≤ (ji25)) = true := decide_eq_true c26
           clear c26
           by_cases c27 : (ji25) < (l0.length : Int)
           ·rw [if_pos c27] at H
            have c27b0 : decide ((ji25) < (l0.length : Int)) = true := decide_eq_true c27
            clear c27
            by_cases c28 : (rd l0 (ji25)) = 13
            ·rw [if_pos c28] at H
             have c28b0 : ((rd l0 (ji25)) == 13) = true := beq_iff_eq.mpr c28
             have c28b1 : ((rd l0 (ji25)) != 13) = false := bne_eq_false_iff_eq.mpr c28
             clear c28
             by_cases c29 : (rd l0 x6_2) = 13
             ·rw [if_pos c29] at H
              have c29b0 : ((rd l0 x6_2) == 13) = true := beq_iff_eq.mpr c29
              have c29b1 : ((rd l0 x6_2) != 13) = false := bne_eq_false_iff_eq.mpr c29
              clear c29; have H' := Aside0.mk H; clear H
              have p209 : 0 ≤ (x6_2 : Int) := of_decide_eq_true (by first | (with_reducible assumption) | assumption)
              have q209 : x6_2 < (l0.length : Int) := of_decide_eq_true (by first | (with_reducible assumption) | assumption)
              obtain ⟨ad209, e209, hx209_0⟩ := Kd.at_int HR0.out x6_2 p209 q209
              cases e209
              replace hx209_0 := (HB.out.cell (World.block_lt_of_cell? w _ hx209_0)).trans hx209_0
              replace p209 := eq_true p209
              replace q209 := eq_true q209
              have p210 : 0 ≤ ((ji25) : Int) := of_decide_eq_true (by first | (with_reducible assumption) | assumption)
              have q210 : (ji25) < (l0.length : Int) := of_decide_eq_true (by first | (with_reducible assumption) | assumption)
              obtain ⟨ad210, e210, hx210_0⟩ := Kd.at_int HR0.out (ji25) p210 q210
              obtain rfl : ad209 = ad210 := (by injection e210)
              replace hx210_0 := (HB.out.cell (World.block_lt_of_cell? w _ hx210_0)).trans hx210_0
              replace p210 := eq_true p210
              replace q210 := eq_true q210
              have p211 : 0 ≤ (x6_2 : Int) := of_decide_eq_true (by first | (with_reducible assumption) | assumption)
              have q211 : x6_2 < (l0.length : Int) := of_decide_eq_true (by first | (with_reducible assumption) | assumption)
              obtain ⟨ad211, e211, hx211_0⟩ := Kd.at_int HR0.out x6_2 p211 q211
              obtain rfl : ad209 = ad211 := (by injection e211)
              replace hx211_0 := (HB.out.cell (World.block_lt_of_cell? w _ hx211_0)).trans hx211_0
              replace p211 := eq_true p211
              replace q211 := eq_true q211
              have hnb30 := NB203_202.out; have hnc30 := NB202_203.out; obtain ⟨hcz31_0, hcz31_1, hcz31_2, hcz31_3⟩ := cl4 BK203.out; obtain ⟨hfz31_0, hfz31_1, hfz31_2, hfz31_3⟩ := fl4 BK203.out
              go_wp2
              go_roundg k2
              case measure => have := HK1.out; have := HK2.out; omega
              case rel => exact ⟨(wrap64 (x6_2 + 1)), (wrap64 (x204003_2 + 1)), (by first | rfl | (simp; done) | (simp [*]; done)), H', ⟨by have := HK1.out; have := HK2.out; omega⟩, ⟨by refine pl ?_; refine blk_far ?_ NB202_203.out _; refine pl ?_; exact BK202.out⟩, ⟨by refine pl ?_; refine blk_put (cs := #[.int .i64 (l0.length : Int), .int .i64 x204001_1, .int .i64 x204002_1, .int .i64 x204003_2]) ?_ 3 _ rfl; refine pl ?_; exact BK203.out⟩, ⟨by repeat (first | (with_reducible first | exact HB.out | apply below_alloc | apply pw_below_drewN | apply below_drew1 | refine below_set ?_ GE202.out | refine below_set ?_ GE203.out) | exact HB.out)⟩⟩
             ·rw [if_neg c29] at H
              have c29b0 : ((rd l0 x6_2) == 13) = false := beq_eq_false_iff_ne.mpr c29
              have c29b1 : ((rd l0 x6_2) != 13) = true := bne_iff_ne.mpr c29
              have H' := Aside0.mk H; clear H
              have p209 : 0 ≤ (x6_2 : Int) := of_decide_eq_true (by first | (with_reducible assumption) | assumption)
              have q209 : x6_2 < (l0.length : Int) := of_decide_eq_true (by first | (with_reducible assumption) | assumption)
              obtain ⟨ad209, e209, hx209_0⟩ := Kd.at_int HR0.out x6_2 p209 q209
              cases e209
              replace hx209_0 := (HB.out.cell (World.block_lt_of_cell? w _ hx209_0)).trans hx209_0
              replace p209 := eq_true p209
              replace q209 := eq_true q209
              have p210 : 0 ≤ ((ji25) : Int) := of_decide_eq_true (by first | (with_reducible assumption) | assumption)
              have q210 : (ji25) < (l0.length : Int) := of_decide_eq_true (by first | (with_reducible assumption) | assumption)
              obtain ⟨ad210, e210, hx210_0⟩ := Kd.at_int HR0.out (ji25) p210 q210
              obtain rfl : ad209 = ad210 := (by injection e210)
              replace hx210_0 := (HB.out.cell (World.block_lt_of_cell? w _ hx210_0)).trans hx210_0
              replace p210 := eq_true p210
              replace q210 := eq_true q210
              have p211 : 0 ≤ (x6_2 : Int) := of_decide_eq_true (by first | (with_reducible assumption) | assumption)
              have q211 : x6_2 < (l0.length : Int) := of_decide_eq_true (by first | (with_reducible assumption) | assumption)
              obtain ⟨ad211, e211, hx211_0⟩ := Kd.at_int HR0.out x6_2 p211 q211
              obtain rfl : ad209 = ad211 := (by injection e211)
              replace hx211_0 := (HB.out.cell (World.block_lt_of_cell? w _ hx211_0)).trans hx211_0
              replace p211 := eq_true p211
              replace q211 := eq_true q211
              go_wp2
              go_roundg k2
              case measure => have := HK1.out; have := HK2.out; omega
              case rel => exact ⟨(wrap64 (x6_2 + 1)), (x204003_2), (by first | rfl | (simp; done) | (simp [*]; done)), H', ⟨by have := HK1.out; have := HK2.out; omega⟩, ⟨pl BK202.out⟩, ⟨pl BK203.out⟩, ⟨by repeat (first | (with_reducible first | exact HB.out | apply below_alloc | apply pw_below_drewN | apply below_drew1 | refine below_set ?_ GE202.out | refine below_set ?_ GE203.out) | exact HB.out)⟩⟩
            ·rw [if_neg c28] at H
             have c28b0 : ((rd l0 (ji25)) == 13) = false := beq_eq_false_iff_ne.mpr c28
             have c28b1 : ((rd l0 (ji25)) != 13) = true := bne_iff_ne.mpr c28
             have H' := Aside0.mk H; clear H
             have p209 : 0 ≤ (x6_2 : Int) := of_decide_eq_true (by first | (with_reducible assumption) | assumption)
             have q209 : x6_2 < (l0.length : Int) := of_decide_eq_true (by first | (with_reducible assumption) | assumption)
             obtain ⟨ad209, e209, hx209_0⟩ := Kd.at_int HR0.out x6_2 p209 q209
             cases e209
             replace hx209_0 := (HB.out.cell (World.block_lt_of_cell? w _ hx209_0)).trans hx209_0
             replace p209 := eq_true p209
             replace q209 := eq_true q209
             have p210 : 0 ≤ ((ji25) : Int) := of_decide_eq_true (by first | (with_reducible assumption) | assumption)
             have q210 : (ji25) < (l0.length : Int) := of_decide_eq_true (by first | (with_reducible assumption) | assumption)
             obtain ⟨ad210, e210, hx210_0⟩ := Kd.at_int HR0.out (ji25) p210 q210
             obtain rfl : ad209 = ad210 := (by injection e210)
             replace hx210_0 := (HB.out.cell (World.block_lt_of_cell? w _ hx210_0)).trans hx210_0
             replace p210 := eq_true p210
             replace q210 := eq_true q210
             have hnb32 := NB203_202.out; have hnc32 := NB202_203.out; obtain ⟨hcz33_0, hcz33_1, hcz33_2, hcz33_3⟩ := cl4 BK203.out; obtain ⟨hfz33_0, hfz33_1, hfz33_2, hfz33_3⟩ := fl4 BK203.out
             go_wp2
             go_roundg k2
             case measure => have := HK1.out; have := HK2.out; omega
             case rel => exact ⟨(wrap64 (x6_2 + 1)), (wrap64 (x204003_2 + 1)), (by first | rfl | (simp; done) | (simp [*]; done)), H', ⟨by have := HK1.out; have := HK2.out; omega⟩, ⟨by refine pl ?_; refine blk_far ?_ NB202_203.out _; refine pl ?_; exact BK202.out⟩, ⟨by refine pl ?_; refine blk_put (cs := #[.int .i64 (l0.length : Int), .int .i64 x204001_1, .int .i64 x204002_1, .int .i64 x204003_2]) ?_ 3 _ rfl; refine pl ?_; exact BK203.out⟩, ⟨by repeat (first | (with_reducible first | exact HB.out | apply below_alloc | apply pw_below_drewN | apply below_drew1 | refine below_set ?_ GE202.out | refine below_set ?_ GE203.out) | exact HB.out)⟩⟩
           ·rw [if_neg c27] at H
            exact absurd H (by simp)
          ·rw [if_neg c26] at H
           exact absurd H (by simp)
        ·rw [if_neg c21] at H
         have c21b0 : ((rd l0 x6_2) == 10) = false := beq_eq_false_iff_ne.mpr c21
         have c21b1 : ((rd l0 x6_2) != 10) = true := bne_iff_ne.mpr c21
         by_cases c34 : (rd l0 x6_2) = 13
         ·rw [if_pos c34] at H
          have c34b0 : ((rd l0 x6_2) == 13) = true := beq_iff_eq.mpr c34
          have c34b1 : ((rd l0 x6_2) != 13) = false := bne_eq_false_iff_eq.mpr c34
          clear c34; have H' := Aside0.mk H; clear H
          have p209 : 0 ≤ (x6_2 : Int) := of_decide_eq_true (by first | (with_reducible assumption) | assumption)
          have q209 : x6_2 < (l0.length : Int) := of_decide_eq_true (by first | (with_reducible assumption) | assumption)
          obtain ⟨ad209, e209, hx209_0⟩ := Kd.at_int HR0.out x6_2 p209 q209
          cases e209
          replace hx209_0 := (HB.out.cell (World.block_lt_of_cell? w _ hx209_0)).trans hx209_0
          replace p209 := eq_true p209
          replace q209 := eq_true q209
          have p212 : 0 ≤ (x6_2 : Int) := of_decide_eq_true (by first | (with_reducible assumption) | assumption)
          have q212 : x6_2 < (l0.length : Int) := of_decide_eq_true (by first | (with_reducible assumption) | assumption)
          obtain ⟨ad212, e212, hx212_0⟩ := Kd.at_int HR0.out x6_2 p212 q212
          obtain rfl : ad209 = ad212 := (by injection e212)
          replace hx212_0 := (HB.out.cell (World.block_lt_of_cell? w _ hx212_0)).trans hx212_0
          replace p212 := eq_true p212
          replace q212 := eq_true q212
          have hnb35 := NB203_202.out; have hnc35 := NB202_203.out; obtain ⟨hcz36_0, hcz36_1, hcz36_2, hcz36_3⟩ := cl4 BK203.out; obtain ⟨hfz36_0, hfz36_1, hfz36_2, hfz36_3⟩ := fl4 BK203.out
          go_wp2
          go_roundg k2
          case measure => have := HK1.out; have := HK2.out; omega
          case rel => exact ⟨(wrap64 (x6_2 + 1)), (wrap64 (x204003_2 + 1)), (by first | rfl | (simp; done) | (simp [*]; done)), H', ⟨by have := HK1.out; have := HK2.out; omega⟩, ⟨by refine pl ?_; refine blk_far ?_ NB202_203.out _; refine pl ?_; exact BK202.out⟩, ⟨by refine pl ?_; refine blk_put (cs := #[.int .i64 (l0.length : Int), .int .i64 x204001_1, .int .i64 x204002_1, .int .i64 x204003_2]) ?_ 3 _ rfl; refine pl ?_; exact BK203.out⟩, ⟨by repeat (first | (with_reducible first | exact HB.out | apply below_alloc | apply pw_below_drewN | apply below_drew1 | refine below_set ?_ GE202.out | refine below_set ?_ GE203.out) | exact HB.out)⟩⟩
         ·rw [if_neg c34] at H
          have c34b0 : ((rd l0 x6_2) == 13) = false := beq_eq_false_iff_ne.mpr c34
          have c34b1 : ((rd l0 x6_2) != 13) = true := bne_iff_ne.mpr c34
          have H' := Aside0.mk H; clear H
          have p209 : 0 ≤ (x6_2 : Int) := of_decide_eq_true (by first | (with_reducible assumption) | assumption)
          have q209 : x6_2 < (l0.length : Int) := of_decide_eq_true (by first | (with_reducible assumption) | assumption)
          obtain ⟨ad209, e209, hx209_0⟩ := Kd.at_int HR0.out x6_2 p209 q209
          cases e209
          replace hx209_0 := (HB.out.cell (World.block_lt_of_cell? w _ hx209_0)).trans hx209_0
          replace p209 := eq_true p209
          replace q209 := eq_true q209
          have p212 : 0 ≤ (x6_2 : Int) := of_decide_eq_true (by first | (with_reducible assumption) | assumption)
          have q212 : x6_2 < (l0.length : Int) := of_decide_eq_true (by first | (with_reducible assumption) | assumption)
          obtain ⟨ad212, e212, hx212_0⟩ := Kd.at_int HR0.out x6_2 p212 q212
          obtain rfl : ad209 = ad212 := (by injection e212)
          replace hx212_0 := (HB.out.cell (World.block_lt_of_cell? w _ hx212_0)).trans hx212_0
          replace p212 := eq_true p212
          replace q212 := eq_true q212
          go_wp2
          go_roundg k2
          case measure => have := HK1.out; have := HK2.out; omega
          case rel => exact ⟨(wrap64 (x6_2 + 1)), (x204003_2), (by first | rfl | (simp; done) | (simp [*]; done)), H', ⟨by have := HK1.out; have := HK2.out; omega⟩, ⟨pl BK202.out⟩, ⟨pl BK203.out⟩, ⟨by repeat (first | (with_reducible first | exact HB.out | apply below_alloc | apply pw_below_drewN | apply below_drew1 | refine below_set ?_ GE202.out | refine below_set ?_ GE203.out) | exact HB.out)⟩⟩
       ·rw [if_neg c20] at H
        exact absurd H (by simp)
      ·rw [if_neg c19] at H
       have c19b0 : decide (x6_2 < (l0.length : Int)) = false := decide_eq_false c19
       clear c19
       simp only [Option.some.injEq, Prod.mk.injEq] at H
       obtain ⟨rfl, rfl, rfl, rfl⟩ := H
       have hnb37 := NB203_202.out; have hnc37 := NB202_203.out; obtain ⟨hcz38_0, hcz38_1, hcz38_2, hcz38_3⟩ := cl4 BK203.out; obtain ⟨hfz38_0, hfz38_1, hfz38_2, hfz38_3⟩ := fl4 BK203.out; obtain ⟨hcz39_0, hcz39_1, hcz39_2, hcz39_3⟩ := cl4 BK202.out; obtain ⟨hfz39_0, hfz39_1, hfz39_2, hfz39_3⟩ := fl4 BK202.out
       go_wp2
       refine bodyPost_ret (results_cell_row rfl _ _ gb202 34 #[.int .i64 (l0.length : Int), .int .i64 x204001_1, .int .i64 x204002_1, .int .i64 x204003_2] (0, 0) _ rfl (by refine pl ?_; refine blk_put (cs := #[.int .i64 (l0.length : Int), .int .i64 x204001_1, .int .i64 x204002_1, .int .i64 0]) ?_ 3 _ rfl; refine pl ?_; refine blk_put (cs := #[.int .i64 (l0.length : Int), .int .i64 x204001_1, .int .i64 0, .int .i64 0]) ?_ 2 _ rfl; refine pl ?_; refine blk_put (cs := #[.int .i64 (l0.length : Int), .int .i64 0, .int .i64 0, .int .i64 0]) ?_ 1 _ rfl; refine pl ?_; refine blk_put (cs := #[.int .i64 0, .int .i64 0, .int .i64 0, .int .i64 0]) ?_ 0 _ rfl; refine pl ?_; exact BK202.out) Tryd.underlying34 rfl (by kernel_rfl)) rfl ?_
       exact ⟨by first | rfl | (simp [errW_none, errW_some] <;> rfl) | (simp [*, errW_none, errW_some] <;> rfl), by repeat (first | (with_reducible first | exact HB.out | apply below_alloc | apply pw_below_drewN | apply below_drew1 | refine below_set ?_ GE202.out | refine below_set ?_ GE203.out) | exact HB.out)⟩

-- NOT PRINTED: function 4 (galleylaw08_LeafBorders)

-- NOT PRINTED: function 18 (leaf_Leaf_Split)

-- NOT PRINTED: function 5 (galleylaw08_LeafNil)
end Go.Proofs.YteoonhidjldnfaaDoor.Pr

namespace Go.Proofs.YteoonhidjldnfaaDoor.Pr
open Go.RowKit Go.Shelf Go.Proofs.YteoonhidjldnfaaDoorW.PrintWords Go.Proofs.YteoonhidjldnfaaDoorW.PrintLast Go.Proofs.YteoonhidjldnfaaDoorW.PrintMore
set_option linter.unusedVariables false
set_option linter.unusedSimpArgs false
attribute [local go_sem] Oper.semAt_some
abbrev PStep := Nat × Int × Int × Bool
def encP (x : PStep) : Array Value := #[.int .i64 (x.1 : Int), stepA x.2]
def stepsN (s : ByteArray) : Nat → Nat → List PStep
  | 0, _ => []
  | f + 1, pos => if pos < s.size then (pos, stepF (s.extract pos s.size)) :: stepsN s f (pos + (Utf8.decode s pos).2) else []
def KpS (B g : Nat) (W W' : World) : Prop := (W'.heap[B]? = W.heap[B]? ∧ W'.heap[g]? = W.heap[g]?) ∧ KeepsWalks W W'
theorem KpS.t {B g : Nat} {A C D : World} (h : KpS B g A C) (k : KpS B g C D) : KpS B g A D := ⟨⟨k.1.1.trans h.1.1, k.1.2.trans h.1.2⟩, h.2.trans k.2⟩
theorem KpS.b {B g n : Nat} (hB : B < n) (hg : g < n) (W : World) (l : Nat) (o o' : Obj) (hl : n ≤ l) (h : W.heap[l]? = some o) (_ : o.isCells = false) (hw : o.isWalk = false) : KpS B g W (W.putObj l o') :=
  ⟨⟨World.putObj_heap_other (by omega), World.putObj_heap_other (by omega)⟩, KeepsWalks.putObj _ h hw⟩
theorem grown_iterAt {W : World} {k : Nat} (s : ByteArray) (pos : Nat) : W.grownBy (W.iterAt k s pos) (some k) :=
  ⟨rfl, rfl, rfl, by rw [Lib.iterAt_size]; exact Nat.le_refl _, fun i _ hne => Lib.iterAt_other _ _ _ _ _ (fun e => hne (by rw [e]))⟩
theorem grown_below {W W' : World} (h : Below W.heap.size W W') : W.grownBy W' none := ⟨h.os, h.tape, h.output, h.size, fun k hk _ => h.block k hk⟩
theorem width_pos (s : ByteArray) (pos : Nat) : 1 ≤ (Utf8.decode s pos).2 := by
  simp only [Utf8.decode]
  (repeat' split) <;> simp
set_option maxRecDepth 100000 in
set_option maxHeartbeats 8000000 in
theorem all_stops (n : Nat) (hn : 1 ≤ n) (B : Nat) (s : ByteArray) (w : World) (hB : w.heap[B]? = some (.cells #[.string s] 9 (0, 0))) (hb : ∃ t fr, w.heap[0]? = some (.cells Glob.badC t fr)) :
    SeqStopsK Fence.wide n Tryd.prog 51 #[.pointer (some ⟨B, 0, none⟩)] encP (KpS B 0) (fun xs => xs = stepsN s s.size 0) (fun pre => pre <+: stepsN s s.size 0) (stepsN s s.size 0).length w := by
  intro l J Jx W hW hJ hJx hY h0
  have hBw : B < w.heap.size := Glob.lt_of_heap hB
  have hBW : W.heap[B]? = some (.cells #[.string s] 9 (0, 0)) := (hW.block _ hBw).trans hB
  obtain ⟨bt, bfr, hbad0⟩ := hb
  have hbadlt : 0 < w.heap.size := Glob.lt_of_heap hbad0
  have hbadW : W.heap[0]? = some (.cells Glob.badC bt bfr) := (hW.block _ hbadlt).trans hbad0
  have hBW' : B < W.heap.size := Glob.lt_of_heap hBW
  have hgW' : 0 < W.heap.size := Glob.lt_of_heap hbadW
  have hcs : W.cell? ⟨B, 0, none⟩ = some (.string s) := by rw [cell_of_row _ _ _ _ _ _ hBW]; rfl
  refine callsIn_of_wp Tryd.func51 rfl trivial ?_ rfl
  simp only [Tryd.ntmps51, List.size_toArray, List.length_cons, List.length_nil, Nat.reduceAdd, Nat.reduceSub, Array.replicate_succ, Array.replicate_zero, List.push_toArray, List.append_toArray, List.nil_append, List.cons_append]
  gi_wp2
  gi_loopw [3] (fun _ wr => ∃ (pre : List PStep) (pos fuel : Nat), pre ++ stepsN s fuel pos = stepsN s s.size 0 ∧ s.size ≤ pos + fuel ∧ wr.heap[W.heap.size]? = some (.stringIter s pos) ∧ wr.heap[B]? = some (.cells #[.string s] 9 (0, 0)) ∧ wr.heap[0]? = some (.cells Glob.badC bt bfr) ∧ J pre wr)
    (fun _ wr => s.size - wr.iterPos W.heap.size)
  case atStart =>
    refine ⟨[], 0, s.size, rfl, by omega, World.iter_heap W s 0, (Below.heap_alloc _ _ _ hBW').trans hBW, (Below.heap_alloc _ _ _ hgW').trans hbadW, hJ _ _ _ none h0 (World.grownBy_alloc W _ none) (by simp)⟩
  case round =>
    obtain ⟨pre, pos, fuel, hsum, hfu, hit, hBr, hbr, hJr⟩ := hrel
    by_cases hp : pos < s.size
    · obtain ⟨f, rfl⟩ : ∃ f, fuel = f + 1 := ⟨fuel - 1, by omega⟩
      have hsum2 : pre ++ (pos, stepF (s.extract pos s.size)) :: stepsN s f (pos + (Utf8.decode s pos).2) = stepsN s s.size 0 := by rw [← hsum, stepsN, if_pos hp]
      have hlen : pre.length < (stepsN s s.size 0).length := by rw [← hsum2]; simp
      have hnx : ∀ ty, (Instr.next (.pointer (some ⟨W.heap.size, 0, none⟩)) true ty).run Tryd.prog wr = _ := fun ty => Lib.run_next_any_at wr W.heap.size s pos ty hit hp
      have hwd := width_pos s pos
      have hit2 := Lib.iterAt_heap wr W.heap.size s pos (pos + (Utf8.decode s pos).2) hit
      have hB2 := (Lib.iterAt_other wr W.heap.size B s (pos + (Utf8.decode s pos).2) (by omega)).trans hBr
      have hb2 := (Lib.iterAt_other wr W.heap.size 0 s (pos + (Utf8.decode s pos).2) (by omega)).trans hbr
      have hJ2 := hJ _ _ _ (some W.heap.size) hJr (grown_iterAt s (pos + (Utf8.decode s pos).2)) (fun r e => by cases e; exact ⟨Nat.le_refl _, _, hit, rfl⟩)
      obtain ⟨W2, hW2⟩ : ∃ W2, wr.iterAt W.heap.size s (pos + (Utf8.decode s pos).2) = W2 := ⟨_, rfl⟩
      rw [hW2] at hit2 hB2 hb2 hJ2
      have hnx2 := fun ty => (hnx ty).trans (congrArg (Result.ok _) hW2)
      clear hnx hW2 hBr hbr hJr
      have hcs2 : W2.cell? ⟨B, 0, none⟩ = some (.string s) := by rw [cell_of_row _ _ _ _ _ _ hB2]; rfl
      have hsz : 0 < (s.extract pos s.size).size := by rw [ByteArray.size_extract]; omega
      gi_wp2_with (refine ⟨trivial, ?_⟩; gi_at_call 52; refine (callsIn_wide.2 (step_first.raw (s.extract pos s.size) hsz W2 ⟨_, _, hb2⟩)).mono ?_; rintro e W3 ⟨rfl, hb3⟩; obtain ⟨fn, tmps, assign, body, hy, hR⟩ := hY pre (pos, stepF (s.extract pos s.size)) W3 (hJ _ _ _ none hJ2 (grown_below hb3) (by simp)) hlen; dsimp only [encP] at hy)
      have hit3 := (hb3.block _ (Glob.lt_of_heap hit2)).trans hit2
      have hB3 := (hb3.block _ (Glob.lt_of_heap hB2)).trans hB2
      have hg3 := (hb3.block _ (Glob.lt_of_heap hb2)).trans hb2
      refine hR.mono ?_
      rintro e W4 (⟨rfl, hJ4, hk4⟩ | ⟨rfl, hJx4⟩)
      · have hit4 := hk4.2.same _ _ hit3 rfl
        gi_wp2
        go_roundw
        case rel => exact ⟨pre ++ [(pos, stepF (s.extract pos s.size))], pos + (Utf8.decode s pos).2, f, by rw [List.append_assoc]; exact hsum2, by omega, hit4, hk4.1.1.trans hB3, hk4.1.2.trans hg3, hJ4⟩
        case measure => simp only [World.iterPos, hit4, hit]; omega
      · gi_wp2
        refine bodyPost_ret (results_none rfl _ _ _) rfl ?_
        exact ⟨⟨_, rfl⟩, .inr ⟨_, ⟨stepsN s f (pos + (Utf8.decode s pos).2), by rw [List.append_assoc]; exact hsum2⟩, hJx4⟩⟩
    · have hnil : stepsN s fuel pos = [] := by cases fuel with | zero => rfl | succ f => rw [stepsN, if_neg hp]
      rw [hnil, List.append_nil] at hsum
      have hnx : ∀ ty, (Instr.next (.pointer (some ⟨W.heap.size, 0, none⟩)) true ty).run Tryd.prog wr = _ := fun ty => Lib.run_next_end_at wr W.heap.size s pos ty hit hp
      gi_wp2
      go_end0
      exact ⟨⟨_, rfl⟩, .inl ⟨_, hsum, hJr⟩⟩
end Go.Proofs.YteoonhidjldnfaaDoor.Pr

namespace Go.Proofs.YteoonhidjldnfaaDoor.Pr
open Go.RowKit Go.Shelf Go.Proofs.YteoonhidjldnfaaDoorW.PrintWords Go.Proofs.YteoonhidjldnfaaDoorW.PrintLast Go.Proofs.YteoonhidjldnfaaDoorW.PrintMore
set_option linter.unusedVariables false
set_option linter.unusedSimpArgs false
attribute [local go_sem] Oper.semAt_some
def unitsN (r : Int) : Int := if r > 65535 then 2 else 1
def szStep (z : Int × Int × Int × Int) (x : PStep) : Int × Int × Int × Int :=
  (wrap64 (z.1 + 1), wrap64 (z.2.1 + unitsN x.2.1), if x.2.1 = 13 ∨ (x.2.1 = 10 ∧ z.2.2.2 ≠ 13) then wrap64 (z.2.2.1 + 1) else z.2.2.1, x.2.1)
def szAll (l : List PStep) : Int × Int × Int × Int := l.foldl szStep (0, 0, 0, 0)
theorem szAll_snoc (pre : List PStep) (x : PStep) : szAll (pre ++ [x]) = szStep (szAll pre) x := by simp [szAll]
def weld_Sizes.f (l0 : List Int) : Option (Int × Int × Int × Int) :=
  some ((l0.length : Int), (szAll (stepsN (strOfNums l0) (strOfNums l0).size 0)).1, (szAll (stepsN (strOfNums l0) (strOfNums l0).size 0)).2.1, (szAll (stepsN (strOfNums l0) (strOfNums l0).size 0)).2.2.1)
def zC : Array Value := #[.int .i64 0, .int .i64 0, .int .i64 0, .int .i64 0]
def sC (l0 : List Int) (z : Int × Int × Int × Int) : Array Value := #[.int .i64 (l0.length : Int), .int .i64 z.1, .int .i64 z.2.1, .int .i64 z.2.2.1]
theorem blk_own {β : Type} (B : Nat) (t : TypeId) (f : β → Array Value) : Own (fun s W => W.heap[B]? = some (.cells (f s) t (0, 0))) := fun s X Y row hs hg hrow =>
  blk_grown hs hg (fun e' => by obtain ⟨o, ho, hc⟩ := hrow B e'.symm; rw [hs] at ho; cases ho; cases hc)
theorem to_cells {W : World} {k : Nat} {o o' : Obj} (h : W.heap[k]? = some o) (e : o = o') : W.heap[k]? = some o' := e ▸ h
theorem far_ne1 {n : Nat} (j : Nat) : n + 1 ≠ (⟨n + 1 + 1, j, none⟩ : Addr).block := by show n + 1 ≠ n + 1 + 1; omega
theorem far_ne2 {n : Nat} (j : Nat) : n + 1 + 1 ≠ (⟨n + 1, j, none⟩ : Addr).block := by show n + 1 + 1 ≠ n + 1; omega
def Turns (n : Nat) (W W' : World) : Prop := KeepsOthers W W' ∧ Below (n + 1) W W' ∧ W'.heap[n + 1 + 1 + 1]? = W.heap[n + 1 + 1 + 1]? ∧ W'.heap.size = W.heap.size
theorem Turns.refl (n : Nat) (W : World) : Turns n W W := ⟨KeepsOthers.refl _, Below.refl _ _, rfl, rfl⟩
theorem Turns.drew {n : Nat} {W W' : World} (h : Turns n W W') : Turns n W W'.drew := ⟨h.1.trans (KeepsOthers.drew _), h.2.1.drew, h.2.2⟩
theorem Turns.set1 {n : Nat} {W W' : World} (h : Turns n W W') (j : Nat) (v : Value) : Turns n W (W'.setCell ⟨n + 1, j, none⟩ v) :=
  ⟨h.1.trans (KeepsOthers.setCell _ _ _), h.2.1.setCell (p := ⟨n + 1, j, none⟩) (Nat.le_refl _) _, (Below.heap_setCell W' ⟨n + 1, j, none⟩ v _ (by show n + 1 + 1 + 1 ≠ n + 1; omega)).trans h.2.2.1, by rw [← h.2.2.2]; simp [World.setCell]⟩
theorem Turns.set2 {n : Nat} {W W' : World} (h : Turns n W W') (j : Nat) (v : Value) : Turns n W (W'.setCell ⟨n + 1 + 1, j, none⟩ v) :=
  ⟨h.1.trans (KeepsOthers.setCell _ _ _), h.2.1.setCell (p := ⟨n + 1 + 1, j, none⟩) (Nat.le_succ _) _, (Below.heap_setCell W' ⟨n + 1 + 1, j, none⟩ v _ (by show n + 1 + 1 + 1 ≠ n + 1 + 1; omega)).trans h.2.2.1, by rw [← h.2.2.2]; simp [World.setCell]⟩
def SzI (w : World) (l0 : List Int) (pre : List PStep) (W : World) : Prop := (((W.heap[w.heap.size + 1]? = some (.cells (sC l0 (szAll pre)) 34 (0, 0)) ∧ W.heap[w.heap.size + 1 + 1]? = some (.cells #[.int .i32 (szAll pre).2.2.2] 21 (0, 0))) ∧ W.heap[w.heap.size]? = some (.cells zC 34 (0, 0))) ∧ Below w.heap.size w W) ∧ w.heap.size + 4 ≤ W.heap.size
theorem SzI_own (w : World) (l0 : List Int) (B : Nat) (h : w.heap.size ≤ B) : OwnFrom B (SzI w l0) :=
  OwnFrom.and (OwnFrom.and (OwnFrom.and (OwnFrom.and (Own.from (blk_own _ _ _) _) (Own.from (blk_own _ _ (fun pre => #[Value.int .i32 (szAll pre).2.2.2])) _)) (Own.from (blk_own _ _ (fun _ => zC)) _)) (ownFrom_below (Nat.le_refl _) h)) (fun _ _ _ _ hs hg _ => Nat.le_trans hs hg.size)
theorem round_end {w W W' : World} {B : Nat} {l0 : List Int} {pre : List PStep} {x : PStep} {a : Act} {g : Nat} (hg : g < w.heap.size) (hI : SzI w l0 pre W) (hT : Turns w.heap.size W W')
    (q1 : W'.heap[w.heap.size + 1]? = some (.cells (sC l0 (szAll (pre ++ [x]))) 34 (0, 0))) (q2 : W'.heap[w.heap.size + 1 + 1]? = some (.cells #[.int .i32 (szAll (pre ++ [x])).2.2.2] 21 (0, 0))) :
    ownPostG B (KpS (w.heap.size + 1 + 1 + 1) g) (SzI w l0) (fun _ _ _ => False) (pre ++ [x]) W .normal a W' := by
  obtain ⟨⟨⟨⟨c1, c2⟩, c0⟩, hB1⟩, hsW⟩ := hI
  exact ⟨hT.1.from _, ⟨⟨hT.2.2.1, hT.2.1.block _ (by omega)⟩, hT.1.walks⟩, ⟨⟨⟨⟨q1, q2⟩, (hT.2.1.block _ (Nat.lt_succ_self _)).trans c0⟩, hB1.trans (hT.2.1.mono (Nat.le_succ _))⟩, by rw [hT.2.2.2]; exact hsW⟩⟩
theorem round_endA {w W : World} {B : Nat} {l0 : List Int} {pre : List PStep} {x : PStep} {a : Act} {g : Nat} (hg : g < w.heap.size) (hI : SzI w l0 pre W) {a1 a2 a3 a4 : Int}
    (e1 : a1 = (szAll (pre ++ [x])).1) (e2 : a2 = (szAll (pre ++ [x])).2.1) (e3 : a3 = (szAll (pre ++ [x])).2.2.1) (e4 : a4 = (szAll (pre ++ [x])).2.2.2) :
    ownPostG B (KpS (w.heap.size + 1 + 1 + 1) g) (SzI w l0) (fun _ _ _ => False) (pre ++ [x]) W .normal a
      ((((W.setCell ⟨w.heap.size + 1, 1, none⟩ (.int .i64 a1)).setCell ⟨w.heap.size + 1, 2, none⟩ (.int .i64 a2)).setCell ⟨w.heap.size + 1, 3, none⟩ (.int .i64 a3)).setCell ⟨w.heap.size + 1 + 1, 0, none⟩ (.int .i32 a4)).drew := by
  have hI' := hI
  obtain ⟨⟨⟨⟨c1, c2⟩, c0⟩, hB1⟩, hsW⟩ := hI'
  refine round_end hg hI (Turns.drew (Turns.set2 (Turns.set1 (Turns.set1 (Turns.set1 (Turns.refl _ _) _ _) _ _) _ _) _ _)) ?_ ?_
  · refine blk_drew (blk_far (to_cells (blk_set (blk_set (blk_set c1 _ _) _ _) _ _) ?_) (far_ne1 _) _)
    subst e1 e2 e3
    rfl
  · refine blk_drew (to_cells (blk_set (blk_far (blk_far (blk_far c2 (far_ne2 _) _) (far_ne2 _) _) (far_ne2 _) _) _ _) ?_)
    subst e4
    rfl
theorem round_endB {w W : World} {B : Nat} {l0 : List Int} {pre : List PStep} {x : PStep} {a : Act} {g : Nat} (hg : g < w.heap.size) (hI : SzI w l0 pre W) {a1 a2 a4 : Int}
    (e1 : a1 = (szAll (pre ++ [x])).1) (e2 : a2 = (szAll (pre ++ [x])).2.1) (e3 : (szAll pre).2.2.1 = (szAll (pre ++ [x])).2.2.1) (e4 : a4 = (szAll (pre ++ [x])).2.2.2) :
    ownPostG B (KpS (w.heap.size + 1 + 1 + 1) g) (SzI w l0) (fun _ _ _ => False) (pre ++ [x]) W .normal a
      (((W.setCell ⟨w.heap.size + 1, 1, none⟩ (.int .i64 a1)).setCell ⟨w.heap.size + 1, 2, none⟩ (.int .i64 a2)).setCell ⟨w.heap.size + 1 + 1, 0, none⟩ (.int .i32 a4)).drew := by
  have hI' := hI
  obtain ⟨⟨⟨⟨c1, c2⟩, c0⟩, hB1⟩, hsW⟩ := hI'
  refine round_end hg hI (Turns.drew (Turns.set2 (Turns.set1 (Turns.set1 (Turns.refl _ _) _ _) _ _) _ _)) ?_ ?_
  · refine blk_drew (blk_far (to_cells (blk_set (blk_set c1 _ _) _ _) ?_) (far_ne1 _) _)
    unfold sC
    rw [← e1, ← e2, ← e3]
    rfl
  · refine blk_drew (to_cells (blk_set (blk_far (blk_far c2 (far_ne2 _) _) (far_ne2 _) _) _ _) ?_)
    subst e4
    rfl
set_option maxRecDepth 100000 in
set_option maxHeartbeats 8000000 in
theorem units_still (r : Int) (w : World) : Calls Tryd.prog 42 #[.int .i32 r] w fun e w' => e = .returned (.int .i64 (unitsN r)) ∧ w' = w := by
  unfold unitsN
  by_cases h : r > 65535
  · rw [if_pos h]
    go_enter Tryd.func42, Tryd.ntmps42
    go_wp2
    go_ret
    exact ⟨rfl, rfl⟩
  · rw [if_neg h]
    go_enter Tryd.func42, Tryd.ntmps42
    go_wp2
    go_ret
    exact ⟨rfl, rfl⟩
set_option maxRecDepth 100000 in
set_option maxHeartbeats 8000000 in
theorem step_All.calls (A0 : Option Addr) (c0 : Nat) (l0 : List Int) (w : World) (hr0 : Kd.C (Kd.int .u8) w A0 l0.length l0) :
    Calls Tryd.prog 41 #[.slice A0 l0.length c0] w fun e w' => e = .returned (.func (.func 51) #[] #[.pointer (some ⟨w.heap.size, 0, none⟩)]) ∧ w' = w.alloc (.cells #[.string (strOfNums l0)] 9 (0, 0)) := by
  have hcv := Kd.C_string (P := Tryd.prog) (A := A0) (c := c0) Tryd.underlying26 Tryd.underlying5 Tryd.underlying9 hr0
  go_enter Tryd.func41, Tryd.ntmps41
  go_wp2
  go_ret
  exact ⟨rfl, rfl⟩
end Go.Proofs.YteoonhidjldnfaaDoor.Pr

namespace Go.Proofs.YteoonhidjldnfaaDoor.Pr
open Go.RowKit Go.Shelf Go.Proofs.YteoonhidjldnfaaDoorW.PrintWords Go.Proofs.YteoonhidjldnfaaDoorW.PrintLast Go.Proofs.YteoonhidjldnfaaDoorW.PrintMore
set_option linter.unusedVariables false
set_option linter.unusedSimpArgs false
attribute [local go_sem] Oper.semAt_some
set_option maxRecDepth 100000 in
set_option maxHeartbeats 16000000 in
theorem weld_Sizes.calls (A0 : Option Addr) (c0 : Nat) (l0 : List Int) (r1 r2 r3 r4 : Int) (w : World) (hG : Glob.Globs w) (hr0 : Kd.C (Kd.int .u8) w A0 l0.length l0) (hc0 : l0.length ≤ c0) (h : weld_Sizes.f l0 = some (r1, r2, r3, r4)) :
    Calls Tryd.prog 33 #[.slice A0 l0.length c0] w fun e w' => e = .returned (.agg #[.int .i64 r1, .int .i64 r2, .int .i64 r3, .int .i64 r4]) ∧ Below w.heap.size w w' := by
  obtain ⟨bt, bfr, hbad⟩ := hG.bad
  have HBad := Lib.hid hbad
  have HR := Lib.hid hr0
  have HH := Lib.hid h
  have HC := Lib.hid hc0
  clear hG hbad hr0 h hc0
  refine (callsIn_wide (n := 3)).1 ?_
  refine callsIn_of_wp_marks Tryd.func33 rfl trivial ?_ rfl
  simp only [Tryd.ntmps33, List.size_toArray, List.length_cons, List.length_nil, Nat.reduceAdd, Nat.reduceSub, Array.replicate_succ, Array.replicate_zero, List.push_toArray, List.append_toArray, List.nil_append, List.cons_append]
  gi_wp2_with (refine ⟨trivial, ?_⟩; gi_at_call 41; refine (callsIn_wide.2 (step_All.calls A0 c0 l0 _ (Kd.C_below HR.out ((((Below.refl _ w).alloc (Nat.le_refl _) _).alloc (by simp) _).alloc (by simp; omega) _)))).mono ?_; rintro e w' ⟨rfl, rfl⟩)
  have hB0 := ((((Below.refl _ w).alloc (Nat.le_refl _) (.cells zC 34)).alloc (by simp) (.cells (sC l0 (0, 0, 0, 0)) 34)).alloc (by simp; omega) (.cells #[.int .i32 0] 21)).alloc (by simp; omega) (.cells #[.string (strOfNums l0)] 9)
  have b0 := blk_alloc (blk_alloc (blk_alloc (blk_new w (.cells zC 34)) (.cells (sC l0 (0, 0, 0, 0)) 34)) (.cells #[.int .i32 0] 21)) (.cells #[.string (strOfNums l0)] 9)
  have b1 := blk_alloc (blk_alloc (blk_new (w.alloc (.cells zC 34)) (.cells (sC l0 (0, 0, 0, 0)) 34)) (.cells #[.int .i32 0] 21)) (.cells #[.string (strOfNums l0)] 9)
  have b2 := blk_alloc (blk_new ((w.alloc (.cells zC 34)).alloc (.cells (sC l0 (0, 0, 0, 0)) 34)) (.cells #[.int .i32 0] 21)) (.cells #[.string (strOfNums l0)] 9)
  have b3 := blk_new (((w.alloc (.cells zC 34)).alloc (.cells (sC l0 (0, 0, 0, 0)) 34)).alloc (.cells #[.int .i32 0] 21)) (.cells #[.string (strOfNums l0)] 9)
  have hsz : ((((w.alloc (.cells zC 34)).alloc (.cells (sC l0 (0, 0, 0, 0)) 34)).alloc (.cells #[.int .i32 0] 21)).alloc (.cells #[.string (strOfNums l0)] 9)).heap.size = w.heap.size + 4 := by simp
  simp only [World.size_alloc] at b1 b2 b3
  obtain ⟨W0, hW0⟩ : ∃ W0, (((w.alloc (.cells zC 34)).alloc (.cells (sC l0 (0, 0, 0, 0)) 34)).alloc (.cells #[.int .i32 0] 21)).alloc (.cells #[.string (strOfNums l0)] 9) = W0 := ⟨_, rfl⟩
  have hgl : 0 < w.heap.size := Glob.lt_of_heap HBad.out
  rw [hW0] at hB0 b0 b1 b2 b3 hsz
  change Code.wpIn _ _ _ _ _ _ ((((w.alloc (.cells zC 34)).alloc (.cells (sC l0 (0, 0, 0, 0)) 34)).alloc (.cells #[.int .i32 0] 21)).alloc (.cells #[.string (strOfNums l0)] 9))
  rw [hW0]
  clear hW0
  refine wpIn_rangeFunc_ownH (n := 3) rfl (by decide) (gf := 51) (lb := #[.pointer (some ⟨w.heap.size + 1 + 1 + 1, 0, none⟩)]) rfl trivial (enters_of Tryd.func51 (by kernel_rfl) rfl)
    (all_stops 2 (by decide) (w.heap.size + 1 + 1 + 1) (strOfNums l0) W0 b3 ⟨_, _, (hB0.block _ hgl).trans HBad.out⟩) (fun h k => h.t k) (KpS.b (by omega) (by omega)) (Below.refl _ _) (fun _ => rfl)
    (SzI w l0)
    (fun _ _ _ => False)
    (SzI_own w l0 W0.heap.size (by omega))
    (fun _ _ _ _ _ hs _ _ => hs)
    ⟨⟨⟨⟨b1, b2⟩, b0⟩, hB0⟩, by omega⟩
    (fun x a' W => ∃ Bx, w.heap.size + 1 + 1 + 1 < Bx ∧ W.heap[Bx]? = some (.cells #[.int .i32 x.2.1, .int .i64 x.2.2.1, .bool x.2.2.2] 64 (0, 0)) ∧ a' = { tmps := #[.slice A0 l0.length c0, undef, .pointer (some ⟨w.heap.size, 0, none⟩), .pointer (some ⟨w.heap.size + 1, 0, none⟩), .pointer (some ⟨w.heap.size + 1 + 1, 0, none⟩), undef, .pointer (some ⟨Bx, 0, none⟩), .slice A0 l0.length c0, .int .i64 (l0.length : Int), .agg #[.int .i64 (l0.length : Int), .int .i64 0, .int .i64 0, .int .i64 0], .slice A0 l0.length c0, .func (.func 51) #[] #[.pointer (some ⟨w.heap.size + 1 + 1 + 1, 0, none⟩)], .int .i64 (x.1 : Int), stepA x.2, undef, undef, undef, undef, undef, undef, undef, undef, undef, undef, undef, undef, undef, undef, undef, undef, undef, undef, undef, undef, undef, undef, undef, undef, undef, undef, undef, undef, undef, undef], defers := [] })
    (fun x a' _ X Y row hs hg hr => by obtain ⟨Bx, e1, e2, e3⟩ := hs; exact ⟨Bx, e1, blk_own Bx 64 (fun (_ : Unit) => #[Value.int .i32 x.2.1, .int .i64 x.2.2.1, .bool x.2.2.2]) () X Y row e2 hg (fun r e => (hr r e).2), e3⟩)
    ?assign ?body ?done ?stop
  case assign =>
    rintro l pre x W K ⟨⟨⟨⟨c1, c2⟩, c0'⟩, hB1⟩, hsW⟩ hK
    dsimp only [encP, stepA]
    gi_wp2
    refine hK _ _ ((KeepsOthers.alloc _ _).from _) ⟨⟨Below.heap_alloc _ _ _ (by omega), Below.heap_alloc _ _ _ (by omega)⟩, KeepsWalks.alloc _ _⟩ ⟨⟨⟨⟨blk_alloc c1 _, blk_alloc c2 _⟩, blk_alloc c0' _⟩, hB1.alloc hB1.size _⟩, by simp; omega⟩ ⟨W.heap.size, by omega, blk_new W _, rfl⟩
  case body =>
    rintro l pre x a' W hl ⟨r, hr⟩ ⟨⟨⟨⟨c1, c2⟩, c0'⟩, hB1⟩, hsW⟩ ⟨Bx, hBx, bX, rfl⟩ hlt
    have hI : SzI w l0 pre W := ⟨⟨⟨⟨c1, c2⟩, c0'⟩, hB1⟩, hsW⟩
    have hmx : Tryd.prog.follows .mixedOrders = true := by kernel_rfl
    have s1 : W.cell? ⟨w.heap.size + 1, 1, none⟩ = some (.int .i64 (szAll pre).1) := by rw [cell_of_row _ _ _ _ _ _ c1]; rfl
    have s2 : W.cell? ⟨w.heap.size + 1, 2, none⟩ = some (.int .i64 (szAll pre).2.1) := by rw [cell_of_row _ _ _ _ _ _ c1]; rfl
    have s3 : W.cell? ⟨w.heap.size + 1, 3, none⟩ = some (.int .i64 (szAll pre).2.2.1) := by rw [cell_of_row _ _ _ _ _ _ c1]; rfl
    have sl : W.cell? ⟨w.heap.size + 1 + 1, 0, none⟩ = some (.int .i32 (szAll pre).2.2.2) := by rw [cell_of_row _ _ _ _ _ _ c2]; rfl
    have x0 : W.cell? ⟨Bx, 0, none⟩ = some (.int .i32 x.2.1) := by rw [cell_of_row _ _ _ _ _ _ bX]; rfl
    have f1 : ∀ j, W.frozen? ⟨w.heap.size + 1, j, none⟩ = false := fun j => blk_frozen c1 j
    have f2 : ∀ j, W.frozen? ⟨w.heap.size + 1 + 1, j, none⟩ = false := fun j => blk_frozen c2 j
    have n1 : Bx ≠ w.heap.size + 1 := by omega
    have n2 : Bx ≠ w.heap.size + 1 + 1 := by omega
    have hc : x.2.1 = 13 ∨ (x.2.1 ≠ 13 ∧ x.2.1 = 10 ∧ (szAll pre).2.2.2 = 13) ∨ (x.2.1 ≠ 13 ∧ x.2.1 = 10 ∧ (szAll pre).2.2.2 ≠ 13) ∨ (x.2.1 ≠ 13 ∧ x.2.1 ≠ 10) := by omega
    rcases hc with h13 | ⟨h13, h10, hl13⟩ | ⟨h13, h10, hl13⟩ | ⟨h13, h10⟩
    all_goals gi_wp2
    all_goals gi_region_with_o (refine ⟨trivial, ?_⟩; gi_at_call 42; refine (CallsIn.inRound l (callsIn_wide.2 (units_still _ _))).mono ?_; rintro e w' ⟨rfl, rfl⟩)
    all_goals gi_wp2
    all_goals (try go_bits)
    all_goals first
      | (with_reducible refine round_endA hgl hI ?_ ?_ ?_ ?_)
      | (with_reducible refine round_endB hgl hI ?_ ?_ ?_ ?_)
    all_goals (rw [szAll_snoc])
    all_goals (dsimp only [szStep])
    all_goals first
      | rfl
      | (split <;> first | rfl | (exfalso; omega))
      | omega
      | rw [h13]
      | rw [h10]
  case done =>
    rintro D ys W hD rfl ⟨⟨⟨⟨c1, c2⟩, c0'⟩, hB1⟩, hsW⟩ hK
    obtain ⟨z, hz⟩ : ∃ z, szAll (stepsN (strOfNums l0) (strOfNums l0).size 0) = z := ⟨_, rfl⟩
    have hf := HH.out
    unfold weld_Sizes.f at hf
    rw [hz] at hf c1 c2
    simp only [Option.some.injEq, Prod.mk.injEq] at hf
    obtain ⟨rfl, rfl, rfl, rfl⟩ := hf
    have s0 : W.cell? ⟨w.heap.size + 1, 0, none⟩ = some (.int .i64 (l0.length : Int)) := by rw [cell_of_row _ _ _ _ _ _ c1]; rfl
    have s1 : W.cell? ⟨w.heap.size + 1, 1, none⟩ = some (.int .i64 z.1) := by rw [cell_of_row _ _ _ _ _ _ c1]; rfl
    have s2 : W.cell? ⟨w.heap.size + 1, 2, none⟩ = some (.int .i64 z.2.1) := by rw [cell_of_row _ _ _ _ _ _ c1]; rfl
    have s3 : W.cell? ⟨w.heap.size + 1, 3, none⟩ = some (.int .i64 z.2.2.1) := by rw [cell_of_row _ _ _ _ _ _ c1]; rfl
    have z0 : W.cell? ⟨w.heap.size, 0, none⟩ = some (.int .i64 0) := by rw [cell_of_row _ _ _ _ _ _ c0']; rfl
    have z1 : W.cell? ⟨w.heap.size, 1, none⟩ = some (.int .i64 0) := by rw [cell_of_row _ _ _ _ _ _ c0']; rfl
    have z2 : W.cell? ⟨w.heap.size, 2, none⟩ = some (.int .i64 0) := by rw [cell_of_row _ _ _ _ _ _ c0']; rfl
    have z3 : W.cell? ⟨w.heap.size, 3, none⟩ = some (.int .i64 0) := by rw [cell_of_row _ _ _ _ _ _ c0']; rfl
    have fz : ∀ j, W.frozen? ⟨w.heap.size, j, none⟩ = false := fun j => blk_frozen c0' j
    gi_wp2
    have hK1 := ((((KeepsOthers.setCell W ⟨w.heap.size, 0, none⟩ (.int .i64 (l0.length : Int))).trans (KeepsOthers.setCell _ ⟨w.heap.size, 1, none⟩ (.int .i64 z.1))).trans (KeepsOthers.setCell _ ⟨w.heap.size, 2, none⟩ (.int .i64 z.2.1))).trans (KeepsOthers.setCell _ ⟨w.heap.size, 3, none⟩ (.int .i64 z.2.2.1))).same D _ hK rfl
    have hr := blk_set (blk_set (blk_set (blk_set c0' 0 (.int .i64 (l0.length : Int))) 1 (.int .i64 z.1)) 2 (.int .i64 z.2.1)) 3 (.int .i64 z.2.2.1)
    have hb4 := (((hB1.setCell (p := ⟨w.heap.size, 0, none⟩) (Nat.le_refl _) (.int .i64 (l0.length : Int))).setCell (p := ⟨w.heap.size, 1, none⟩) (Nat.le_refl _) (.int .i64 z.1)).setCell (p := ⟨w.heap.size, 2, none⟩) (Nat.le_refl _) (.int .i64 z.2.1)).setCell (p := ⟨w.heap.size, 3, none⟩) (Nat.le_refl _) (.int .i64 z.2.2.1)
    refine ⟨by simp, .inl ⟨_, _, rfl, run_takeDeferred hK1, ?_⟩⟩
    exact ⟨_, results_cell_row rfl _ _ w.heap.size 34 #[.int .i64 (l0.length : Int), .int .i64 z.1, .int .i64 z.2.1, .int .i64 z.2.2.1] (0, 0) _ rfl ((World.putObj_heap_other (by omega)).trans hr) Tryd.underlying34 rfl (by kernel_rfl), rfl, hb4.trans (belowK_b (w := w) (Nat.le_refl _) _ D _ _ (by omega) hK1 rfl rfl)⟩
  case stop =>
    rintro D c pre W _ _ h _
    exact h.elim
end Go.Proofs.YteoonhidjldnfaaDoor.Pr
