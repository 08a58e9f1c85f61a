/- The contract of weld.Sizes, by hand: a fold over the steps. Conditions: step.bad's cells are as laid; the slice's cells are the list. -/
import Derived.Test.YtiolhoaoepgmcaaDoorFAll
namespace Go.Proofs.YtiolhoaoepgmcaaDoor.Pr
open Go.RowKit Go.Shelf Go.Proofs.YtiolhoaoepgmcaaDoorW.PrintWords Go.Proofs.YtiolhoaoepgmcaaDoorW.PrintLast Go.Proofs.YtiolhoaoepgmcaaDoorW.PrintMore
set_option linter.unusedVariables false
set_option linter.unusedSimpArgs false
attribute [local go_sem] Oper.semAt_some

def unitsN (r : Int) : Int := if r > 65535 then 2 else 1
/-- One step more: runes, units, ends, the last rune. -/
def szStep (z : Int × Int × Int × Int) (x : PStep) : Int × Int × Int × Int :=
  (wrap64 (z.1 + 1), wrap64 (z.2.1 + unitsN x.2.1), if x.2.1 = 13 ∨ (x.2.1 = 10 ∧ z.2.2.2 ≠ 13) then wrap64 (z.2.2.1 + 1) else z.2.2.1, x.2.1)
def szAll (l : List PStep) : Int × Int × Int × Int := l.foldl szStep (0, 0, 0, 0)
theorem szAll_snoc (pre : List PStep) (x : PStep) : szAll (pre ++ [x]) = szStep (szAll pre) x := by simp [szAll]
def weld_Sizes.f (l0 : List Int) : Option (Int × Int × Int × Int) :=
  some ((l0.length : Int), (szAll (stepsN (strOfNums l0) (strOfNums l0).size 0)).1, (szAll (stepsN (strOfNums l0) (strOfNums l0).size 0)).2.1, (szAll (stepsN (strOfNums l0) (strOfNums l0).size 0)).2.2.1)

def zC : Array Value := #[.int .i64 0, .int .i64 0, .int .i64 0, .int .i64 0]
def sC (l0 : List Int) (z : Int × Int × Int × Int) : Array Value := #[.int .i64 (l0.length : Int), .int .i64 z.1, .int .i64 z.2.1, .int .i64 z.2.2.1]
/-- 'This block holds these cells' speaks of cells alone. -/
theorem blk_own {β : Type} (B : Nat) (t : TypeId) (f : β → Array Value) : Own (fun s W => W.heap[B]? = some (.cells (f s) t (0, 0))) := fun s X Y row hs hg hrow =>
  blk_grown hs hg (fun e' => by obtain ⟨o, ho, hc⟩ := hrow B e'.symm; rw [hs] at ho; cases ho; cases hc)

theorem to_cells {W : World} {k : Nat} {o o' : Obj} (h : W.heap[k]? = some o) (e : o = o') : W.heap[k]? = some o' := e ▸ h
theorem far_ne1 {n : Nat} (j : Nat) : n + 1 ≠ (⟨n + 1 + 1, j, none⟩ : Addr).block := by show n + 1 ≠ n + 1 + 1; omega
theorem far_ne2 {n : Nat} (j : Nat) : n + 1 + 1 ≠ (⟨n + 1, j, none⟩ : Addr).block := by show n + 1 + 1 ≠ n + 1; omega
/-- What a round of the loop turns: its two variables' blocks alone. -/
def Turns (n : Nat) (W W' : World) : Prop := KeepsOthers W W' ∧ Below (n + 1) W W' ∧ W'.heap[n + 1 + 1 + 1]? = W.heap[n + 1 + 1 + 1]? ∧ W'.heap.size = W.heap.size
theorem Turns.refl (n : Nat) (W : World) : Turns n W W := ⟨KeepsOthers.refl _, Below.refl _ _, rfl, rfl⟩
theorem Turns.drew {n : Nat} {W W' : World} (h : Turns n W W') : Turns n W W'.drew := ⟨h.1.trans (KeepsOthers.drew _), h.2.1.drew, h.2.2⟩
theorem Turns.set1 {n : Nat} {W W' : World} (h : Turns n W W') (j : Nat) (v : Value) : Turns n W (W'.setCell ⟨n + 1, j, none⟩ v) :=
  ⟨h.1.trans (KeepsOthers.setCell _ _ _), h.2.1.setCell (p := ⟨n + 1, j, none⟩) (Nat.le_refl _) _, (Below.heap_setCell W' ⟨n + 1, j, none⟩ v _ (by show n + 1 + 1 + 1 ≠ n + 1; omega)).trans h.2.2.1, by rw [← h.2.2.2]; simp [World.setCell]⟩
theorem Turns.set2 {n : Nat} {W W' : World} (h : Turns n W W') (j : Nat) (v : Value) : Turns n W (W'.setCell ⟨n + 1 + 1, j, none⟩ v) :=
  ⟨h.1.trans (KeepsOthers.setCell _ _ _), h.2.1.setCell (p := ⟨n + 1 + 1, j, none⟩) (Nat.le_succ _) _, (Below.heap_setCell W' ⟨n + 1 + 1, j, none⟩ v _ (by show n + 1 + 1 + 1 ≠ n + 1 + 1; omega)).trans h.2.2.1, by rw [← h.2.2.2]; simp [World.setCell]⟩

/-- Between two rounds. -/
def SzI (w : World) (l0 : List Int) (pre : List PStep) (W : World) : Prop := (((W.heap[w.heap.size + 1]? = some (.cells (sC l0 (szAll pre)) 34 (0, 0)) ∧ W.heap[w.heap.size + 1 + 1]? = some (.cells #[.int .i32 (szAll pre).2.2.2] 21 (0, 0))) ∧ W.heap[w.heap.size]? = some (.cells zC 34 (0, 0))) ∧ Below w.heap.size w W) ∧ w.heap.size + 4 ≤ W.heap.size
theorem SzI_own (w : World) (l0 : List Int) (B : Nat) (h : w.heap.size ≤ B) : OwnFrom B (SzI w l0) :=
  OwnFrom.and (OwnFrom.and (OwnFrom.and (OwnFrom.and (Own.from (blk_own _ _ _) _) (Own.from (blk_own _ _ (fun pre => #[Value.int .i32 (szAll pre).2.2.2])) _)) (Own.from (blk_own _ _ (fun _ => zC)) _)) (ownFrom_below (Nat.le_refl _) h)) (fun _ _ _ _ hs hg _ => Nat.le_trans hs hg.size)
theorem round_end {w W W' : World} {B : Nat} {l0 : List Int} {pre : List PStep} {x : PStep} {a : Act} {g : Nat} (hg : g < w.heap.size) (hI : SzI w l0 pre W) (hT : Turns w.heap.size W W')
    (q1 : W'.heap[w.heap.size + 1]? = some (.cells (sC l0 (szAll (pre ++ [x]))) 34 (0, 0))) (q2 : W'.heap[w.heap.size + 1 + 1]? = some (.cells #[.int .i32 (szAll (pre ++ [x])).2.2.2] 21 (0, 0))) :
    ownPostG B (KpS (w.heap.size + 1 + 1 + 1) g) (SzI w l0) (fun _ _ _ => False) (pre ++ [x]) W .normal a W' := by
  obtain ⟨⟨⟨⟨c1, c2⟩, c0⟩, hB1⟩, hsW⟩ := hI
  exact ⟨hT.1.from _, ⟨⟨hT.2.2.1, hT.2.1.block _ (by omega)⟩, hT.1.walks⟩, ⟨⟨⟨⟨q1, q2⟩, (hT.2.1.block _ (Nat.lt_succ_self _)).trans c0⟩, hB1.trans (hT.2.1.mono (Nat.le_succ _))⟩, by rw [hT.2.2.2]; exact hsW⟩⟩

theorem round_endA {w W : World} {B : Nat} {l0 : List Int} {pre : List PStep} {x : PStep} {a : Act} {g : Nat} (hg : g < w.heap.size) (hI : SzI w l0 pre W) {a1 a2 a3 a4 : Int}
    (e1 : a1 = (szAll (pre ++ [x])).1) (e2 : a2 = (szAll (pre ++ [x])).2.1) (e3 : a3 = (szAll (pre ++ [x])).2.2.1) (e4 : a4 = (szAll (pre ++ [x])).2.2.2) :
    ownPostG B (KpS (w.heap.size + 1 + 1 + 1) g) (SzI w l0) (fun _ _ _ => False) (pre ++ [x]) W .normal a
      ((((W.setCell ⟨w.heap.size + 1, 1, none⟩ (.int .i64 a1)).setCell ⟨w.heap.size + 1, 2, none⟩ (.int .i64 a2)).setCell ⟨w.heap.size + 1, 3, none⟩ (.int .i64 a3)).setCell ⟨w.heap.size + 1 + 1, 0, none⟩ (.int .i32 a4)).drew := by
  have hI' := hI
  obtain ⟨⟨⟨⟨c1, c2⟩, c0⟩, hB1⟩, hsW⟩ := hI'
  refine round_end hg hI (Turns.drew (Turns.set2 (Turns.set1 (Turns.set1 (Turns.set1 (Turns.refl _ _) _ _) _ _) _ _) _ _)) ?_ ?_
  · refine blk_drew (blk_far (to_cells (blk_set (blk_set (blk_set c1 _ _) _ _) _ _) ?_) (far_ne1 _) _)
    subst e1 e2 e3
    rfl
  · refine blk_drew (to_cells (blk_set (blk_far (blk_far (blk_far c2 (far_ne2 _) _) (far_ne2 _) _) (far_ne2 _) _) _ _) ?_)
    subst e4
    rfl
theorem round_endB {w W : World} {B : Nat} {l0 : List Int} {pre : List PStep} {x : PStep} {a : Act} {g : Nat} (hg : g < w.heap.size) (hI : SzI w l0 pre W) {a1 a2 a4 : Int}
    (e1 : a1 = (szAll (pre ++ [x])).1) (e2 : a2 = (szAll (pre ++ [x])).2.1) (e3 : (szAll pre).2.2.1 = (szAll (pre ++ [x])).2.2.1) (e4 : a4 = (szAll (pre ++ [x])).2.2.2) :
    ownPostG B (KpS (w.heap.size + 1 + 1 + 1) g) (SzI w l0) (fun _ _ _ => False) (pre ++ [x]) W .normal a
      (((W.setCell ⟨w.heap.size + 1, 1, none⟩ (.int .i64 a1)).setCell ⟨w.heap.size + 1, 2, none⟩ (.int .i64 a2)).setCell ⟨w.heap.size + 1 + 1, 0, none⟩ (.int .i32 a4)).drew := by
  have hI' := hI
  obtain ⟨⟨⟨⟨c1, c2⟩, c0⟩, hB1⟩, hsW⟩ := hI'
  refine round_end hg hI (Turns.drew (Turns.set2 (Turns.set1 (Turns.set1 (Turns.refl _ _) _ _) _ _) _ _)) ?_ ?_
  · refine blk_drew (blk_far (to_cells (blk_set (blk_set c1 _ _) _ _) ?_) (far_ne1 _) _)
    unfold sC
    rw [← e1, ← e2, ← e3]
    rfl
  · refine blk_drew (to_cells (blk_set (blk_far (blk_far c2 (far_ne2 _) _) (far_ne2 _) _) _ _) ?_)
    subst e4
    rfl

set_option maxRecDepth 100000 in
set_option maxHeartbeats 8000000 in
theorem units_still (r : Int) (w : World) : Calls Tryd.prog 35 #[.int .i32 r] w fun e w' => e = .returned (.int .i64 (unitsN r)) ∧ w' = w := by
  unfold unitsN
  by_cases h : r > 65535
  · rw [if_pos h]
    go_enter Tryd.func35, Tryd.ntmps35
    go_wp2
    go_ret
    exact ⟨rfl, rfl⟩
  · rw [if_neg h]
    go_enter Tryd.func35, Tryd.ntmps35
    go_wp2
    go_ret
    exact ⟨rfl, rfl⟩

set_option maxRecDepth 100000 in
set_option maxHeartbeats 8000000 in
theorem step_All.calls (A0 : Option Addr) (c0 : Nat) (l0 : List Int) (w : World) (hr0 : Kd.C (Kd.int .u8) w A0 l0.length l0) :
    Calls Tryd.prog 34 #[.slice A0 l0.length c0] w fun e w' => e = .returned (.func (.func 41) #[] #[.pointer (some ⟨w.heap.size, 0, none⟩)]) ∧ w' = w.alloc (.cells #[.string (strOfNums l0)] 9 (0, 0)) := by
  have hcv := Kd.C_string (P := Tryd.prog) (A := A0) (c := c0) Tryd.underlying26 Tryd.underlying5 Tryd.underlying9 hr0
  go_enter Tryd.func34, Tryd.ntmps34
  go_wp2
  go_ret
  exact ⟨rfl, rfl⟩

end Go.Proofs.YtiolhoaoepgmcaaDoor.Pr
