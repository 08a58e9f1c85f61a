/- What a row's list of package arrays gives: their blocks hold just these cells. Conditions: the row's own condition 'laid'. -/
import Derived.Test.YtiolhoaoepgmcaaDoorCards
import Derived.Test.YtiolhoaoepgmcaaDoorTie
import Derived.Test.YtiolhoaoepgmcaaDoorGlob
import Derived.WalkKit
import Derived.ProofKit
import Derived.OpenShut
import Derived.Deep.DeepHandedRow
import Derived.Lib.LaidTab
import Derived.LaidSub
namespace Go.Proofs.YtiolhoaoepgmcaaDoor.Laid
open Go.ChangeShapes Go.WideShapes Go.ChangeAt Go.RowKit
set_option linter.unusedVariables false
set_option linter.unusedSimpArgs false

theorem gBad : Tryd.prog.globalNamed "galley/step.bad" = some 0 := by kernel_rfl
theorem tyBad : (Tryd.prog.globals[0]?).map (·.type) = some 61 := by kernel_rfl
theorem cStep : Tryd.prog.cellsOf 61 = 3 := by kernel_rfl
theorem cRune : Tryd.prog.cellsOf 21 = 1 := by kernel_rfl
theorem cBool : Tryd.prog.cellsOf 4 = 1 := by kernel_rfl
theorem cInt : Tryd.prog.cellsOf 3 = 1 := by kernel_rfl

theorem heap_of_var {W : World} {n : String} {g : Nat} {cs : Array Value} (hg : Tryd.prog.globalNamed n = some g) (hv : W.var? Tryd.prog n = some cs) : ∃ t fr, W.heap[g]? = some (.cells cs t fr) := by
  unfold World.var? at hv
  rw [hg] at hv
  simp only [Option.bind_some] at hv
  split at hv
  · rename_i c t fr h
    obtain rfl := Option.some.inj hv
    exact ⟨t, fr, h⟩
  · cases hv


theorem arr_eq {a : Array Value} {l : List Value} (h : a.toList = l) : a = l.toArray := by rw [← h]

/-- step.bad's three cells. -/
theorem bad_cells {W : World} {base : Nat} {sp : Nat → Bool} {held : Bool} {fuel : Nat} {cs : List Value} {p : List MemPlace}
    (h : DataW.trod (fun _ => ()) Tryd.prog W base sp held fuel 61 cs = some (Rows.laid_galley_step_bad, p)) : cs = Glob.badC.toList := by
  obtain ⟨xs, n, rfl, hx, hl, hxl, hf⟩ := DataW.trod_struct Tryd.underlying61 h
  rw [cStep] at hl
  match cs, hl with
  | [c0, c1, c2], _ =>
    match xs, hxl with
    | [y0, y1, y2], _ =>
      have e := congrArg Prod.fst hx
      simp [Rows.laid_galley_step_bad] at e
      obtain ⟨e0, e1, e2⟩ := e
      have f0 := hf 0 _ rfl
      have f1 := hf 1 _ rfl
      have f2 := hf 2 _ rfl
      simp only [cRune, cInt, cBool, List.drop_zero, List.drop_succ_cons, List.take_succ_cons, List.take_zero, List.getElem?_cons_zero, List.getElem?_cons_succ] at f0 f1 f2
      obtain ⟨n0, g0, k0, _⟩ := DataW.trod_int Tryd.underlying21 f0
      obtain ⟨n1, g1, k1, _⟩ := DataW.trod_int Tryd.underlying3 f1
      obtain ⟨n2, g2, k2⟩ := DataW.trod_bool Tryd.underlying4 f2
      subst k0 k1 k2
      simp [cRune, cInt, cBool] at e0 e1 e2 g0 g1 g2
      subst e0 e1 e2 g0 g1 g2
      rfl

theorem globs_of {W : World} {r : List (String × DataW Unit)} (h : laidMet Tryd.prog (("galley/step.bad", Rows.laid_galley_step_bad) :: r) W) : Glob.Globs W := by
  obtain ⟨ps, ⟨g3, t3, c3, u3, p3, q3, hg3, ht3, hv3, hd3, _, _⟩, _⟩ := h
  obtain rfl := Option.some.inj (gBad.symm.trans hg3)
  obtain rfl := Option.some.inj (tyBad.symm.trans ht3)
  have k3 := arr_eq (bad_cells hd3)
  subst k3
  exact heap_of_var gBad hv3

end Go.Proofs.YtiolhoaoepgmcaaDoor.Laid
