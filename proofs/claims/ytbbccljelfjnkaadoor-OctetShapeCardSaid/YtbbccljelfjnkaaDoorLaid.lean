/- What a row's list of package arrays gives: their blocks hold just these cells. Conditions: the row's own condition 'laid'. -/
import Derived.Test.YtbbccljelfjnkaaDoorCards
import Derived.Test.YtbbccljelfjnkaaDoorTie
import Derived.Test.YtbbccljelfjnkaaDoorGlob
import Derived.WalkKit
import Derived.ProofKit
import Derived.OpenShut
import Derived.Deep.DeepHandedRow
import Derived.Lib.LaidTab
import Derived.LaidSub
namespace Go.Proofs.YtbbccljelfjnkaaDoor.Laid
open Go.ChangeShapes Go.WideShapes Go.ChangeAt Go.RowKit
set_option linter.unusedVariables false
set_option linter.unusedSimpArgs false

theorem gSpans : Tryd.prog.globalNamed "galley/octet.spans" = some 0 := by kernel_rfl
theorem gNeeds : Tryd.prog.globalNamed "galley/octet.needs" = some 1 := by kernel_rfl
theorem gMasks : Tryd.prog.globalNamed "galley/octet.masks" = some 2 := by kernel_rfl
theorem tySpans : (Tryd.prog.globals[0]?).map (·.type) = some 36 := by kernel_rfl
theorem tyNeeds : (Tryd.prog.globals[1]?).map (·.type) = some 37 := by kernel_rfl
theorem tyMasks : (Tryd.prog.globals[2]?).map (·.type) = some 40 := by kernel_rfl
theorem cInt : Tryd.prog.cellsOf 3 = 1 := by kernel_rfl
theorem cCls : Tryd.prog.cellsOf 23 = 1 := by kernel_rfl
theorem cU8 : Tryd.prog.cellsOf 5 = 1 := by kernel_rfl
theorem cSpan : Tryd.prog.cellsOf 35 = 3 := by kernel_rfl
theorem cSpans : Tryd.prog.cellsOf 36 = 21 := by kernel_rfl
theorem cNeeds : Tryd.prog.cellsOf 37 = 7 := by kernel_rfl
theorem cMasks : Tryd.prog.cellsOf 40 = 5 := by kernel_rfl

theorem heap_of_var {W : World} {n : String} {g : Nat} {cs : Array Value} (hg : Tryd.prog.globalNamed n = some g) (hv : W.var? Tryd.prog n = some cs) : ∃ t fr, W.heap[g]? = some (.cells cs t fr) := by
  unfold World.var? at hv
  rw [hg] at hv
  simp only [Option.bind_some] at hv
  split at hv
  · rename_i c t fr h
    obtain rfl := Option.some.inj hv
    exact ⟨t, fr, h⟩
  · cases hv

/-- A span's three numbers. -/
theorem span_cells {W : World} {base : Nat} {sp : Nat → Bool} {held : Bool} {fuel : Nat} {cs : List Value} {a b c : Int} {p : List MemPlace}
    (h : DataW.trod (fun _ => ()) Tryd.prog W base sp held fuel 35 cs = some (.agg [.lit (.int .i64 a), .lit (.int .i64 b), .lit (.int .i64 c)], p)) : cs = [.int .i64 a, .int .i64 b, .int .i64 c] := by
  obtain ⟨xs, n, rfl, hx, hl, hxl, hf⟩ := DataW.trod_struct Tryd.underlying35 h
  rw [cSpan] at hl
  match cs, hl with
  | [c0, c1, c2], _ =>
    match xs, hxl with
    | [y0, y1, y2], _ =>
      have e := congrArg Prod.fst hx
      simp at e
      obtain ⟨e0, e1, e2⟩ := e
      have f0 := hf 0 _ rfl
      have f1 := hf 1 _ rfl
      have f2 := hf 2 _ rfl
      simp only [cInt, cCls, List.drop_zero, List.drop_succ_cons, List.take_succ_cons, List.take_zero, List.getElem?_cons_zero, List.getElem?_cons_succ] at f0 f1 f2
      obtain ⟨n0, g0, k0, _⟩ := DataW.trod_int Tryd.underlying3 f0
      obtain ⟨n1, g1, k1, _⟩ := DataW.trod_int Tryd.underlying3 f1
      obtain ⟨n2, g2, k2, _⟩ := DataW.trod_int Tryd.underlying23 f2
      subst k0 k1 k2
      simp [cInt, cCls] at e0 e1 e2 g0 g1 g2
      subst e0 e1 e2 g0 g1 g2
      rfl

theorem seven {l : List Value} (h : l.length = 21) : l = ((l.drop (0 * 3)).take 3) ++ ((l.drop (1 * 3)).take 3) ++ ((l.drop (2 * 3)).take 3) ++ ((l.drop (3 * 3)).take 3) ++ ((l.drop (4 * 3)).take 3) ++ ((l.drop (5 * 3)).take 3) ++ ((l.drop (6 * 3)).take 3) := by
  match l, h with
  | [a0, a1, a2, a3, a4, a5, a6, a7, a8, a9, a10, a11, a12, a13, a14, a15, a16, a17, a18, a19, a20], _ => rfl

theorem spans_cells {W : World} {base : Nat} {sp : Nat → Bool} {held : Bool} {fuel : Nat} {cs : List Value} {p : List MemPlace}
    (h : DataW.trod (fun _ => ()) Tryd.prog W base sp held fuel 36 cs = some (Rows.laid_galley_octet_spans, p)) : cs = Glob.spansC.toList := by
  obtain ⟨xs, m, rfl, hx, hl, hxl, hf⟩ := DataW.trod_array Tryd.underlying36 h
  rw [cSpans] at hl
  match xs, hxl with
  | [y0, y1, y2, y3, y4, y5, y6], _ =>
    have e := congrArg Prod.fst hx
    simp [Rows.laid_galley_octet_spans] at e
    obtain ⟨e0, e1, e2, e3, e4, e5, e6⟩ := e
    have f0 := hf 0 (by omega)
    have f1 := hf 1 (by omega)
    have f2 := hf 2 (by omega)
    have f3 := hf 3 (by omega)
    have f4 := hf 4 (by omega)
    have f5 := hf 5 (by omega)
    have f6 := hf 6 (by omega)
    simp only [cSpan, List.getElem?_cons_zero, List.getElem?_cons_succ] at f0 f1 f2 f3 f4 f5 f6
    have s0 := span_cells (f0.trans (congrArg some (Prod.ext e0.symm rfl : y0 = (_, y0.2))))
    have s1 := span_cells (f1.trans (congrArg some (Prod.ext e1.symm rfl : y1 = (_, y1.2))))
    have s2 := span_cells (f2.trans (congrArg some (Prod.ext e2.symm rfl : y2 = (_, y2.2))))
    have s3 := span_cells (f3.trans (congrArg some (Prod.ext e3.symm rfl : y3 = (_, y3.2))))
    have s4 := span_cells (f4.trans (congrArg some (Prod.ext e4.symm rfl : y4 = (_, y4.2))))
    have s5 := span_cells (f5.trans (congrArg some (Prod.ext e5.symm rfl : y5 = (_, y5.2))))
    have s6 := span_cells (f6.trans (congrArg some (Prod.ext e6.symm rfl : y6 = (_, y6.2))))
    rw [seven hl, s0, s1, s2, s3, s4, s5, s6]
    rfl

theorem arr_eq {a : Array Value} {l : List Value} (h : a.toList = l) : a = l.toArray := by rw [← h]

theorem globs_of {W : World} {r : List (String × DataW Unit)} (h : laidMet Tryd.prog (("galley/octet.spans", Rows.laid_galley_octet_spans) :: ("galley/octet.needs", Rows.laid_galley_octet_needs) :: ("galley/octet.masks", Rows.laid_galley_octet_masks) :: r) W) : Glob.Globs W := by
  obtain ⟨ps, ⟨g0, t0, c0, u0, p0, q0, hg0, ht0, hv0, hd0, ⟨g1, t1, c1, u1, p1, q1, hg1, ht1, hv1, hd1, ⟨g2, t2, c2, u2, p2, q2, hg2, ht2, hv2, hd2, _, _⟩, _⟩, _⟩, _⟩ := h
  obtain rfl := Option.some.inj (gSpans.symm.trans hg0)
  obtain rfl := Option.some.inj (gNeeds.symm.trans hg1)
  obtain rfl := Option.some.inj (gMasks.symm.trans hg2)
  obtain rfl := Option.some.inj (tySpans.symm.trans ht0)
  obtain rfl := Option.some.inj (tyNeeds.symm.trans ht1)
  obtain rfl := Option.some.inj (tyMasks.symm.trans ht2)
  have k0 := arr_eq (spans_cells hd0)
  have k1 := arr_eq (Lib.cells_of_tab (k := .i64) (zs := [0, 1, 0, 2, 3, 4, 0]) Tryd.underlying37 Tryd.underlying3 cInt cNeeds hd1)
  have k2 := arr_eq (Lib.cells_of_tab (k := .u8) (zs := [0, 127, 31, 15, 7]) Tryd.underlying40 Tryd.underlying5 cU8 cMasks hd2)
  subst k0 k1 k2
  exact ⟨heap_of_var gSpans hv0, heap_of_var gNeeds hv1, heap_of_var gMasks hv2⟩
end Go.Proofs.YtbbccljelfjnkaaDoor.Laid
