/- The contract of weld.Sizes, by hand: a fold over the steps. Conditions: step.bad's cells are as laid; the slice's cells are the list. -/
import Derived.Test.YtiolhoaoepgmcaaDoorFSz0
namespace Go.Proofs.YtiolhoaoepgmcaaDoor.Pr
open Go.RowKit Go.Shelf Go.Proofs.YtiolhoaoepgmcaaDoorW.PrintWords Go.Proofs.YtiolhoaoepgmcaaDoorW.PrintLast Go.Proofs.YtiolhoaoepgmcaaDoorW.PrintMore
set_option linter.unusedVariables false
set_option linter.unusedSimpArgs false
attribute [local go_sem] Oper.semAt_some

set_option maxRecDepth 100000 in
set_option maxHeartbeats 16000000 in
theorem weld_Sizes.calls (A0 : Option Addr) (c0 : Nat) (l0 : List Int) (r1 r2 r3 r4 : Int) (w : World) (hG : Glob.Globs w) (hr0 : Kd.C (Kd.int .u8) w A0 l0.length l0) (hc0 : l0.length ≤ c0) (h : weld_Sizes.f l0 = some (r1, r2, r3, r4)) :
    Calls Tryd.prog 28 #[.slice A0 l0.length c0] w fun e w' => e = .returned (.agg #[.int .i64 r1, .int .i64 r2, .int .i64 r3, .int .i64 r4]) ∧ Below w.heap.size w w' := by
  obtain ⟨bt, bfr, hbad⟩ := hG.bad
  have HBad := Lib.hid hbad
  have HR := Lib.hid hr0
  have HH := Lib.hid h
  have HC := Lib.hid hc0
  clear hG hbad hr0 h hc0
  refine (callsIn_wide (n := 3)).1 ?_
  refine callsIn_of_wp_marks Tryd.func28 rfl trivial ?_ rfl
  simp only [Tryd.ntmps28, List.size_toArray, List.length_cons, List.length_nil, Nat.reduceAdd, Nat.reduceSub, Array.replicate_succ, Array.replicate_zero, List.push_toArray, List.append_toArray, List.nil_append, List.cons_append]
  gi_wp2_with (refine ⟨trivial, ?_⟩; gi_at_call 34; refine (callsIn_wide.2 (step_All.calls A0 c0 l0 _ (Kd.C_below HR.out ((((Below.refl _ w).alloc (Nat.le_refl _) _).alloc (by simp) _).alloc (by simp; omega) _)))).mono ?_; rintro e w' ⟨rfl, rfl⟩)
  have hB0 := ((((Below.refl _ w).alloc (Nat.le_refl _) (.cells zC 34)).alloc (by simp) (.cells (sC l0 (0, 0, 0, 0)) 34)).alloc (by simp; omega) (.cells #[.int .i32 0] 21)).alloc (by simp; omega) (.cells #[.string (strOfNums l0)] 9)
  have b0 := blk_alloc (blk_alloc (blk_alloc (blk_new w (.cells zC 34)) (.cells (sC l0 (0, 0, 0, 0)) 34)) (.cells #[.int .i32 0] 21)) (.cells #[.string (strOfNums l0)] 9)
  have b1 := blk_alloc (blk_alloc (blk_new (w.alloc (.cells zC 34)) (.cells (sC l0 (0, 0, 0, 0)) 34)) (.cells #[.int .i32 0] 21)) (.cells #[.string (strOfNums l0)] 9)
  have b2 := blk_alloc (blk_new ((w.alloc (.cells zC 34)).alloc (.cells (sC l0 (0, 0, 0, 0)) 34)) (.cells #[.int .i32 0] 21)) (.cells #[.string (strOfNums l0)] 9)
  have b3 := blk_new (((w.alloc (.cells zC 34)).alloc (.cells (sC l0 (0, 0, 0, 0)) 34)).alloc (.cells #[.int .i32 0] 21)) (.cells #[.string (strOfNums l0)] 9)
  have hsz : ((((w.alloc (.cells zC 34)).alloc (.cells (sC l0 (0, 0, 0, 0)) 34)).alloc (.cells #[.int .i32 0] 21)).alloc (.cells #[.string (strOfNums l0)] 9)).heap.size = w.heap.size + 4 := by simp
  simp only [World.size_alloc] at b1 b2 b3
  obtain ⟨W0, hW0⟩ : ∃ W0, (((w.alloc (.cells zC 34)).alloc (.cells (sC l0 (0, 0, 0, 0)) 34)).alloc (.cells #[.int .i32 0] 21)).alloc (.cells #[.string (strOfNums l0)] 9) = W0 := ⟨_, rfl⟩
  have hgl : 0 < w.heap.size := Glob.lt_of_heap HBad.out
  rw [hW0] at hB0 b0 b1 b2 b3 hsz
  change Code.wpIn _ _ _ _ _ _ ((((w.alloc (.cells zC 34)).alloc (.cells (sC l0 (0, 0, 0, 0)) 34)).alloc (.cells #[.int .i32 0] 21)).alloc (.cells #[.string (strOfNums l0)] 9))
  rw [hW0]
  clear hW0
  refine wpIn_rangeFunc_ownH (n := 3) rfl (by decide) (gf := 41) (lb := #[.pointer (some ⟨w.heap.size + 1 + 1 + 1, 0, none⟩)]) rfl trivial (enters_of Tryd.func41 (by kernel_rfl) rfl)
    (all_stops 2 (by decide) (w.heap.size + 1 + 1 + 1) (strOfNums l0) W0 b3 ⟨_, _, (hB0.block _ hgl).trans HBad.out⟩) (fun h k => h.t k) (KpS.b (by omega) (by omega)) (Below.refl _ _) (fun _ => rfl)
    (SzI w l0)
    (fun _ _ _ => False)
    (SzI_own w l0 W0.heap.size (by omega))
    (fun _ _ _ _ _ hs _ _ => hs)
    ⟨⟨⟨⟨b1, b2⟩, b0⟩, hB0⟩, by omega⟩
    (fun x a' W => ∃ Bx, w.heap.size + 1 + 1 + 1 < Bx ∧ W.heap[Bx]? = some (.cells #[.int .i32 x.2.1, .int .i64 x.2.2.1, .bool x.2.2.2] 61 (0, 0)) ∧ a' = { tmps := #[.slice A0 l0.length c0, undef, .pointer (some ⟨w.heap.size, 0, none⟩), .pointer (some ⟨w.heap.size + 1, 0, none⟩), .pointer (some ⟨w.heap.size + 1 + 1, 0, none⟩), undef, .pointer (some ⟨Bx, 0, none⟩), .slice A0 l0.length c0, .int .i64 (l0.length : Int), .agg #[.int .i64 (l0.length : Int), .int .i64 0, .int .i64 0, .int .i64 0], .slice A0 l0.length c0, .func (.func 41) #[] #[.pointer (some ⟨w.heap.size + 1 + 1 + 1, 0, none⟩)], .int .i64 (x.1 : Int), stepA x.2, undef, undef, undef, undef, undef, undef, undef, undef, undef, undef, undef, undef, undef, undef, undef, undef, undef, undef, undef, undef, undef, undef, undef, undef, undef, undef, undef, undef, undef, undef], defers := [] })
    (fun x a' _ X Y row hs hg hr => by obtain ⟨Bx, e1, e2, e3⟩ := hs; exact ⟨Bx, e1, blk_own Bx 61 (fun (_ : Unit) => #[Value.int .i32 x.2.1, .int .i64 x.2.2.1, .bool x.2.2.2]) () X Y row e2 hg (fun r e => (hr r e).2), e3⟩)
    ?assign ?body ?done ?stop
  case assign =>
    rintro l pre x W K ⟨⟨⟨⟨c1, c2⟩, c0'⟩, hB1⟩, hsW⟩ hK
    dsimp only [encP, stepA]
    gi_wp2
    refine hK _ _ ((KeepsOthers.alloc _ _).from _) ⟨⟨Below.heap_alloc _ _ _ (by omega), Below.heap_alloc _ _ _ (by omega)⟩, KeepsWalks.alloc _ _⟩ ⟨⟨⟨⟨blk_alloc c1 _, blk_alloc c2 _⟩, blk_alloc c0' _⟩, hB1.alloc hB1.size _⟩, by simp; omega⟩ ⟨W.heap.size, by omega, blk_new W _, rfl⟩
  case body =>
    rintro l pre x a' W hl ⟨r, hr⟩ ⟨⟨⟨⟨c1, c2⟩, c0'⟩, hB1⟩, hsW⟩ ⟨Bx, hBx, bX, rfl⟩ hlt
    have hI : SzI w l0 pre W := ⟨⟨⟨⟨c1, c2⟩, c0'⟩, hB1⟩, hsW⟩
    have hmx : Tryd.prog.follows .mixedOrders = true := by kernel_rfl
    have s1 : W.cell? ⟨w.heap.size + 1, 1, none⟩ = some (.int .i64 (szAll pre).1) := by rw [cell_of_row _ _ _ _ _ _ c1]; rfl
    have s2 : W.cell? ⟨w.heap.size + 1, 2, none⟩ = some (.int .i64 (szAll pre).2.1) := by rw [cell_of_row _ _ _ _ _ _ c1]; rfl
    have s3 : W.cell? ⟨w.heap.size + 1, 3, none⟩ = some (.int .i64 (szAll pre).2.2.1) := by rw [cell_of_row _ _ _ _ _ _ c1]; rfl
    have sl : W.cell? ⟨w.heap.size + 1 + 1, 0, none⟩ = some (.int .i32 (szAll pre).2.2.2) := by rw [cell_of_row _ _ _ _ _ _ c2]; rfl
    have x0 : W.cell? ⟨Bx, 0, none⟩ = some (.int .i32 x.2.1) := by rw [cell_of_row _ _ _ _ _ _ bX]; rfl
    have f1 : ∀ j, W.frozen? ⟨w.heap.size + 1, j, none⟩ = false := fun j => blk_frozen c1 j
    have f2 : ∀ j, W.frozen? ⟨w.heap.size + 1 + 1, j, none⟩ = false := fun j => blk_frozen c2 j
    have n1 : Bx ≠ w.heap.size + 1 := by omega
    have n2 : Bx ≠ w.heap.size + 1 + 1 := by omega
    have hc : x.2.1 = 13 ∨ (x.2.1 ≠ 13 ∧ x.2.1 = 10 ∧ (szAll pre).2.2.2 = 13) ∨ (x.2.1 ≠ 13 ∧ x.2.1 = 10 ∧ (szAll pre).2.2.2 ≠ 13) ∨ (x.2.1 ≠ 13 ∧ x.2.1 ≠ 10) := by omega
    rcases hc with h13 | ⟨h13, h10, hl13⟩ | ⟨h13, h10, hl13⟩ | ⟨h13, h10⟩
    all_goals gi_wp2
    all_goals gi_region_with_o (refine ⟨trivial, ?_⟩; gi_at_call 35; refine (CallsIn.inRound l (callsIn_wide.2 (units_still _ _))).mono ?_; rintro e w' ⟨rfl, rfl⟩)
    all_goals gi_wp2
    all_goals (try go_bits)
    all_goals first
      | (with_reducible refine round_endA hgl hI ?_ ?_ ?_ ?_)
      | (with_reducible refine round_endB hgl hI ?_ ?_ ?_ ?_)
    all_goals (rw [szAll_snoc])
    all_goals (dsimp only [szStep])
    all_goals first
      | rfl
      | (split <;> first | rfl | (exfalso; omega))
      | omega
      | rw [h13]
      | rw [h10]
  case done =>
    rintro D ys W hD rfl ⟨⟨⟨⟨c1, c2⟩, c0'⟩, hB1⟩, hsW⟩ hK
    obtain ⟨z, hz⟩ : ∃ z, szAll (stepsN (strOfNums l0) (strOfNums l0).size 0) = z := ⟨_, rfl⟩
    have hf := HH.out
    unfold weld_Sizes.f at hf
    rw [hz] at hf c1 c2
    simp only [Option.some.injEq, Prod.mk.injEq] at hf
    obtain ⟨rfl, rfl, rfl, rfl⟩ := hf
    have s0 : W.cell? ⟨w.heap.size + 1, 0, none⟩ = some (.int .i64 (l0.length : Int)) := by rw [cell_of_row _ _ _ _ _ _ c1]; rfl
    have s1 : W.cell? ⟨w.heap.size + 1, 1, none⟩ = some (.int .i64 z.1) := by rw [cell_of_row _ _ _ _ _ _ c1]; rfl
    have s2 : W.cell? ⟨w.heap.size + 1, 2, none⟩ = some (.int .i64 z.2.1) := by rw [cell_of_row _ _ _ _ _ _ c1]; rfl
    have s3 : W.cell? ⟨w.heap.size + 1, 3, none⟩ = some (.int .i64 z.2.2.1) := by rw [cell_of_row _ _ _ _ _ _ c1]; rfl
    have z0 : W.cell? ⟨w.heap.size, 0, none⟩ = some (.int .i64 0) := by rw [cell_of_row _ _ _ _ _ _ c0']; rfl
    have z1 : W.cell? ⟨w.heap.size, 1, none⟩ = some (.int .i64 0) := by rw [cell_of_row _ _ _ _ _ _ c0']; rfl
    have z2 : W.cell? ⟨w.heap.size, 2, none⟩ = some (.int .i64 0) := by rw [cell_of_row _ _ _ _ _ _ c0']; rfl
    have z3 : W.cell? ⟨w.heap.size, 3, none⟩ = some (.int .i64 0) := by rw [cell_of_row _ _ _ _ _ _ c0']; rfl
    have fz : ∀ j, W.frozen? ⟨w.heap.size, j, none⟩ = false := fun j => blk_frozen c0' j
    gi_wp2
    have hK1 := ((((KeepsOthers.setCell W ⟨w.heap.size, 0, none⟩ (.int .i64 (l0.length : Int))).trans (KeepsOthers.setCell _ ⟨w.heap.size, 1, none⟩ (.int .i64 z.1))).trans (KeepsOthers.setCell _ ⟨w.heap.size, 2, none⟩ (.int .i64 z.2.1))).trans (KeepsOthers.setCell _ ⟨w.heap.size, 3, none⟩ (.int .i64 z.2.2.1))).same D _ hK rfl
    have hr := blk_set (blk_set (blk_set (blk_set c0' 0 (.int .i64 (l0.length : Int))) 1 (.int .i64 z.1)) 2 (.int .i64 z.2.1)) 3 (.int .i64 z.2.2.1)
    have hb4 := (((hB1.setCell (p := ⟨w.heap.size, 0, none⟩) (Nat.le_refl _) (.int .i64 (l0.length : Int))).setCell (p := ⟨w.heap.size, 1, none⟩) (Nat.le_refl _) (.int .i64 z.1)).setCell (p := ⟨w.heap.size, 2, none⟩) (Nat.le_refl _) (.int .i64 z.2.1)).setCell (p := ⟨w.heap.size, 3, none⟩) (Nat.le_refl _) (.int .i64 z.2.2.1)
    refine ⟨by simp, .inl ⟨_, _, rfl, run_takeDeferred hK1, ?_⟩⟩
    exact ⟨_, results_cell_row rfl _ _ w.heap.size 34 #[.int .i64 (l0.length : Int), .int .i64 z.1, .int .i64 z.2.1, .int .i64 z.2.2.1] (0, 0) _ rfl ((World.putObj_heap_other (by omega)).trans hr) Tryd.underlying34 rfl (by kernel_rfl), rfl, hb4.trans (belowK_b (w := w) (Nat.le_refl _) _ D _ _ (by omega) hK1 rfl rfl)⟩
  case stop =>
    rintro D c pre W _ _ h _
    exact h.elim
end Go.Proofs.YtiolhoaoepgmcaaDoor.Pr
