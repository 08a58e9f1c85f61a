-- Laid by wip/drive/drive.py of this proof's repo (a driver over the kit's print): not typed by hand, not trusted: Lean checks it.
import Derived.Test.YtiolhoaoepgmcaaDoorPr0
import Derived.Test.YtiolhoaoepgmcaaDoorPr5
namespace Go.Proofs.YtiolhoaoepgmcaaDoor.Pr
open Go.RowKit Go.Proofs.YtiolhoaoepgmcaaDoorW.PrintWords Go.Proofs.YtiolhoaoepgmcaaDoorW.PrintLast Go.Proofs.YtiolhoaoepgmcaaDoorW.PrintMore
attribute [local go_sem] max2_int min2_int max_two min_two max_three min_three max_four min_four   -- for this text's walks alone
set_option linter.unusedVariables false
set_option linter.unusedSimpArgs false

/-! ### galleyref05_Sizes: function 14 -/
mutual
def galleyref05_Sizes.l0 : Nat → List Int → List (S61) → Int → Int → Int → Int → Int → Option (Int × Int × Int × Int)
  | 0, _, _, _, _, _, _, _ => none
  | k + 1, x0, x4, x5, x204000, x204001, x204002, x204003 => if x5 < (x4.length : Int) then (if 0 ≤ x5 then ((galleyref05_units.f ((rd_T61 x4 x5).f0) ((rd_T61 x4 x5).f1) ((rd_T61 x4 x5).f2)).bind fun t208 => (galleyref05_Sizes.l0 k x0 x4 (wrap64 (x5 + 1)) x204000 (wrap64 (x204001 + 1)) (wrap64 (x204002 + t208)) x204003)) else (none)) else (galleyref05_Sizes.l1 k x0 0 x204000 x204001 x204002 x204003)
def galleyref05_Sizes.l1 : Nat → List Int → Int → Int → Int → Int → Int → Option (Int × Int × Int × Int)
  | 0, _, _, _, _, _, _ => none
  | k + 1, x0, x6, x204000, x204001, x204002, x204003 => if x6 < (x0.length : Int) then (if 0 ≤ x6 then (if (rd x0 x6) = 10 then (if x6 = 0 then (galleyref05_Sizes.l1 k x0 (wrap64 (x6 + 1)) x204000 x204001 x204002 (wrap64 (x204003 + 1))) else (if 0 ≤ (wrap64 (x6 - 1)) then (if (wrap64 (x6 - 1)) < (x0.length : Int) then (if (rd x0 (wrap64 (x6 - 1))) = 13 then (if (rd x0 x6) = 13 then (galleyref05_Sizes.l1 k x0 (wrap64 (x6 + 1)) x204000 x204001 x204002 (wrap64 (x204003 + 1))) else (galleyref05_Sizes.l1 k x0 (wrap64 (x6 + 1)) x204000 x204001 x204002 x204003)) else (galleyref05_Sizes.l1 k x0 (wrap64 (x6 + 1)) x204000 x204001 x204002 (wrap64 (x204003 + 1)))) else (none)) else (none))) else (if (rd x0 x6) = 13 then (galleyref05_Sizes.l1 k x0 (wrap64 (x6 + 1)) x204000 x204001 x204002 (wrap64 (x204003 + 1))) else (galleyref05_Sizes.l1 k x0 (wrap64 (x6 + 1)) x204000 x204001 x204002 x204003))) else (none)) else (some (x204000, x204001, x204002, x204003))
end
def galleyref05_Sizes.f (k : Nat) (l0 : List Int) : Option (Int × Int × Int × Int) := (galleyref02_Steps.f k l0).bind fun t204 => (galleyref05_Sizes.l0 k l0 t204 0 (l0.length : Int) 0 0 0)
theorem galleyref05_Sizes.mono_l : ∀ k, (∀ y0 y1 y2 y3 y4 y5 y6, LeO (galleyref05_Sizes.l0 k y0 y1 y2 y3 y4 y5 y6) (galleyref05_Sizes.l0 (k + 1) y0 y1 y2 y3 y4 y5 y6)) ∧ (∀ y0 y1 y2 y3 y4 y5, LeO (galleyref05_Sizes.l1 k y0 y1 y2 y3 y4 y5) (galleyref05_Sizes.l1 (k + 1) y0 y1 y2 y3 y4 y5))
  | 0 => ⟨fun _ _ _ _ _ _ _ r h => by simp [galleyref05_Sizes.l0] at h, fun _ _ _ _ _ _ r h => by simp [galleyref05_Sizes.l1] at h⟩
  | k + 1 => by
    obtain ⟨ih0, ih1⟩ := galleyref05_Sizes.mono_l k
    refine ⟨?_, ?_⟩
    · intro y0 y1 y2 y3 y4 y5 y6
      unfold galleyref05_Sizes.l0
      repeat' first
      | (with_reducible exact ih0 _ _ _ _ _ _ _)
      | (with_reducible exact ih1 _ _ _ _ _ _)
      | (with_reducible exact galleyref02_Steps.mono _ _)
      | (with_reducible exact LeO.refl _)
      | (with_reducible exact LeO.none _)
      | (with_reducible refine LeO.ite ?_ ?_)
      | (with_reducible refine LeO.bind ?_ (fun _ => ?_))
      | exact ih0 _ _ _ _ _ _ _
      | exact ih1 _ _ _ _ _ _
      | exact galleyref02_Steps.mono _ _
      | exact LeO.none _
      | refine LeO.ite ?_ ?_
      | refine LeO.bind ?_ (fun _ => ?_)
    · intro y0 y1 y2 y3 y4 y5
      unfold galleyref05_Sizes.l1
      repeat' first
      | (with_reducible exact ih0 _ _ _ _ _ _ _)
      | (with_reducible exact ih1 _ _ _ _ _ _)
      | (with_reducible exact galleyref02_Steps.mono _ _)
      | (with_reducible exact LeO.refl _)
      | (with_reducible exact LeO.none _)
      | (with_reducible refine LeO.ite ?_ ?_)
      | (with_reducible refine LeO.bind ?_ (fun _ => ?_))
      | exact ih0 _ _ _ _ _ _ _
      | exact ih1 _ _ _ _ _ _
      | exact galleyref02_Steps.mono _ _
      | exact LeO.none _
      | refine LeO.ite ?_ ?_
      | refine LeO.bind ?_ (fun _ => ?_)
theorem galleyref05_Sizes.mono : ∀ a0 k, LeO (galleyref05_Sizes.f k a0) (galleyref05_Sizes.f (k + 1) a0) := by
  intro a0 k
  obtain ⟨ih0, ih1⟩ := galleyref05_Sizes.mono_l k
  unfold galleyref05_Sizes.f
  repeat' first
      | (with_reducible exact ih0 _ _ _ _ _ _ _)
      | (with_reducible exact ih1 _ _ _ _ _ _)
      | (with_reducible exact galleyref02_Steps.mono _ _)
      | (with_reducible exact LeO.refl _)
      | (with_reducible exact LeO.none _)
      | (with_reducible refine LeO.ite ?_ ?_)
      | (with_reducible refine LeO.bind ?_ (fun _ => ?_))
      | exact ih0 _ _ _ _ _ _ _
      | exact ih1 _ _ _ _ _ _
      | exact galleyref02_Steps.mono _ _
      | exact LeO.none _
      | refine LeO.ite ?_ ?_
      | refine LeO.bind ?_ (fun _ => ?_)
def galleyref05_Sizes.T7 : Bool × List (List Nat × List Nat) := (true, [([], []), ([0], [0]), ([], []), ([], []), ([2, 3], [2, 3]), ([4], [4]), ([5], [5]), ([1, 6], [1, 6]), ([0, 1, 2, 3, 4, 5, 6, 7], []), ([8, 7, 6, 0, 1, 2, 3, 4, 5, 6, 7], [7, 8])])
def galleyref05_Sizes.B7 : List Nat := [0, 1, 0, 0, 12, 28, 60, 127, 255, 511]
theorem galleyref05_Sizes.tab7 : rtab .any (opsOf Tryd.f14 7) = galleyref05_Sizes.T7 := by kernel_rfl
theorem galleyref05_Sizes.bits7 : waitsOk galleyref05_Sizes.T7.2 galleyref05_Sizes.B7 = true := by kernel_rfl
set_option maxHeartbeats 8000000 in
set_option maxRecDepth 100000 in
theorem galleyref05_Sizes.calls (k : Nat) (A0 : Option Addr) (c0 : Nat) (l0 : List Int) (r1 : Int) (r2 : Int) (r3 : Int) (r4 : Int) (w : World) (hr0 : Kd.C (Kd.int .u8) w A0 l0.length l0) (hc0 : l0.length ≤ c0) (h : galleyref05_Sizes.f k l0 = some (r1, r2, r3, r4)) :
    Calls Tryd.prog 14 #[.slice A0 l0.length c0] w fun e w' => e = .returned (.agg #[.int .i64 r1, .int .i64 r2, .int .i64 r3, .int .i64 r4]) ∧ Below w.heap.size w w' := by
  have hu34 := Tryd.underlying34
  have hu61 := Tryd.underlying61
  have HR0 := Aside0.mk hr0
  have HC0 := Aside0.mk hc0
  clear hr0 hc0
  have HB := Aside0.mk (Below.refl w.heap.size w)
  have H : ((galleyref02_Steps.f k l0).bind fun t204 => (galleyref05_Sizes.l0 k l0 t204 0 (l0.length : Int) 0 0 0)) = some (r1, r2, r3, r4) := h
  clear h
  replace H := Option.bind_eq_some_iff.mp H
  obtain ⟨t204, A20, H⟩ := H
  replace H : (galleyref05_Sizes.l0 k l0 t204 0 (l0.length : Int) 0 0 0) = some (r1, r2, r3, r4) := H
  have A2 := Aside0.mk A20
  clear A20
  have H' := Aside0.mk H
  clear H
  go_enter Tryd.func14, Tryd.ntmps14
  go_wp2_with (first | ((with_reducible refine gate_dst (N := 2) rfl ?_); refine box_event ?hg (N := 2) ?hd (cs := #[.int .i64 0, .int .i64 0, .int .i64 0, .int .i64 0]) (t := 34) ?hr ?_; (case hd => rfl); (case hg => rfl); (case hr => first | (go_simp; done) | (go_simp; rfl)); intro gb202 hg w3 hbox hb; have n0_ := Aside0.mk (below_step (by repeat (first | (with_reducible first | exact HB.out | apply below_alloc | apply pw_below_drewN | apply below_drew1) | exact HB.out)) hb); have n1_ := Aside0.mk (hbox); have n2_ := Aside0.mk ((by rw [hg]; exact (below_size (by repeat (first | (with_reducible first | exact HB.out | apply below_alloc | apply pw_below_drewN | apply below_drew1) | exact HB.out))) : w.heap.size ≤ gb202)); have n3_ := Aside0.mk ((by rw [hg]; exact (below_size (by repeat (first | (with_reducible first | exact HB.out | apply below_alloc | apply pw_below_drewN | apply below_drew1) | exact HB.out))) : w.heap.size ≤ gb202)); clear HB; have HB := n0_; have BK202 := n1_; have GW202 := n2_; have GE202 := n3_; clear n0_ n1_ n2_ n3_; clear hb hbox hg) | ((with_reducible refine gate_dst (N := 3) rfl ?_); refine box_event ?hg (N := 3) ?hd (cs := #[.int .i64 0, .int .i64 0, .int .i64 0, .int .i64 0]) (t := 34) ?hr ?_; (case hd => rfl); (case hg => rfl); (case hr => first | (go_simp; done) | (go_simp; rfl)); intro gb203 hg w4 hbox hb; have n0_ := Aside0.mk (blk_below (g := gb202) (o := .cells #[.int .i64 0, .int .i64 0, .int .i64 0, .int .i64 0] 34 (0, 0)) (by (with_reducible repeat (first | refine blk_drewN ?_ _ | refine blk_drew ?_ | refine blk_alloc ?_ _)); exact BK202.out) hb); have n1_ := Aside0.mk (below_step (by repeat (first | (with_reducible first | exact HB.out | apply below_alloc | apply pw_below_drewN | apply below_drew1 | refine below_set ?_ GE202.out) | exact HB.out)) hb); have n2_ := Aside0.mk (hbox); have n3_ := Aside0.mk ((by rw [hg]; exact (below_size (by repeat (first | (with_reducible first | exact HB.out | apply below_alloc | apply pw_below_drewN | apply below_drew1 | refine below_set ?_ GE202.out) | exact HB.out))) : w.heap.size ≤ gb203)); have n4_ := Aside0.mk ((by rw [hg]; exact (below_size (by repeat (first | (with_reducible first | exact HB.out | apply below_alloc | apply pw_below_drewN | apply below_drew1 | refine below_set ?_ GE202.out) | exact HB.out))) : w.heap.size ≤ gb203)); have n5_ := Aside0.mk ((by rw [hg]; exact Nat.ne_of_lt (blk_lt (g := gb202) (o := .cells #[.int .i64 0, .int .i64 0, .int .i64 0, .int .i64 0] 34 (0, 0)) (by (with_reducible repeat (first | refine blk_drewN ?_ _ | refine blk_drew ?_ | refine blk_alloc ?_ _)); exact BK202.out)) : gb202 ≠ gb203)); have n6_ := Aside0.mk ((by rw [hg]; exact Nat.ne_of_gt (blk_lt (g := gb202) (o := .cells #[.int .i64 0, .int .i64 0, .int .i64 0, .int .i64 0] 34 (0, 0)) (by (with_reducible repeat (first | refine blk_drewN ?_ _ | refine blk_drew ?_ | refine blk_alloc ?_ _)); exact BK202.out)) : gb203 ≠ gb202)); clear BK202; clear HB; have BK202 := n0_; have HB := n1_; have BK203 := n2_; have GW203 := n3_; have GE203 := n4_; have NB202_203 := n5_; have NB203_202 := n6_; clear n0_ n1_ n2_ n3_ n4_ n5_ n6_; clear hb hbox hg; have hnb5 := NB203_202.out; have hnc5 := NB202_203.out; have hcz6_0 : w4.cell? ⟨gb203, 0, none⟩ = some (.int .i64 0) := (blk_cell BK203.out 0).trans rfl; have hcz6_1 : w4.cell? ⟨gb203, 1, none⟩ = some (.int .i64 0) := (blk_cell BK203.out 1).trans rfl; have hcz6_2 : w4.cell? ⟨gb203, 2, none⟩ = some (.int .i64 0) := (blk_cell BK203.out 2).trans rfl; have hcz6_3 : w4.cell? ⟨gb203, 3, none⟩ = some (.int .i64 0) := (blk_cell BK203.out 3).trans rfl; have hfz6_0 := blk_frozen BK203.out 0; have hfz6_1 := blk_frozen BK203.out 1; have hfz6_2 := blk_frozen BK203.out 2; have hfz6_3 := blk_frozen BK203.out 3) | ((with_reducible refine gate_callee (f := 25) rfl ?_); refine goesL_ (some 11) rfl rfl Tryd.func25 (by kernel_rfl) rfl #[.slice A0 l0.length c0] rfl (by (try simp only [List.map_toArray, List.map_cons, List.map_nil]); first | done | rfl | (simp only [List.length_drop, List.length_take]; rfl)) ?_; (with_reducible refine (galleyref02_Steps.calls k _ _ l0 t204 _ ?side1 ?side2 A2.out).mono ?_); (case side1 => exact Kd.C_below HR0.out (by repeat (first | (with_reducible first | exact HB.out | apply below_alloc | apply pw_below_drewN | apply below_drew1 | refine below_set ?_ GE202.out | refine below_set ?_ GE203.out) | exact HB.out))); (case side2 => exact HC0.out); rintro e w7 ⟨v205, rfl, ho0, hb⟩; refine ⟨_, rfl, ?_⟩; have n0_ := Aside0.mk (Kd.R_lower ho0 (below_size (by repeat (first | (with_reducible first | exact HB.out | apply below_alloc | apply pw_below_drewN | apply below_drew1 | refine below_set ?_ GE202.out | refine below_set ?_ GE203.out) | exact HB.out)))); have n1_ := Aside0.mk (blk_below (g := gb202) (o := .cells #[.int .i64 0, .int .i64 0, .int .i64 0, .int .i64 0] 34 (0, 0)) (by (with_reducible repeat (first | refine blk_drewN ?_ _ | refine blk_drew ?_ | refine blk_alloc ?_ _)); refine blk_far ?_ NB202_203.out _; (with_reducible repeat (first | refine blk_drewN ?_ _ | refine blk_drew ?_ | refine blk_alloc ?_ _)); refine blk_far ?_ NB202_203.out _; (with_reducible repeat (first | refine blk_drewN ?_ _ | refine blk_drew ?_ | refine blk_alloc ?_ _)); refine blk_far ?_ NB202_203.out _; (with_reducible repeat (first | refine blk_drewN ?_ _ | refine blk_drew ?_ | refine blk_alloc ?_ _)); refine blk_far ?_ NB202_203.out _; (with_reducible repeat (first | refine blk_drewN ?_ _ | refine blk_drew ?_ | refine blk_alloc ?_ _)); exact BK202.out) hb); have n2_ := Aside0.mk (blk_below (g := gb203) (o := .cells #[.int .i64 (l0.length : Int), .int .i64 0, .int .i64 0, .int .i64 0] 34 (0, 0)) (by (with_reducible repeat (first | refine blk_drewN ?_ _ | refine blk_drew ?_ | refine blk_alloc ?_ _)); refine blk_put (cs := #[.int .i64 (l0.length : Int), .int .i64 0, .int .i64 0, .int .i64 0]) ?_ 3 _ rfl; (with_reducible repeat (first | refine blk_drewN ?_ _ | refine blk_drew ?_ | refine blk_alloc ?_ _)); refine blk_put (cs := #[.int .i64 (l0.length : Int), .int .i64 0, .int .i64 0, .int .i64 0]) ?_ 2 _ rfl; (with_reducible repeat (first | refine blk_drewN ?_ _ | refine blk_drew ?_ | refine blk_alloc ?_ _)); refine blk_put (cs := #[.int .i64 (l0.length : Int), .int .i64 0, .int .i64 0, .int .i64 0]) ?_ 1 _ rfl; (with_reducible repeat (first | refine blk_drewN ?_ _ | refine blk_drew ?_ | refine blk_alloc ?_ _)); refine blk_put (cs := #[.int .i64 0, .int .i64 0, .int .i64 0, .int .i64 0]) ?_ 0 _ rfl; (with_reducible repeat (first | refine blk_drewN ?_ _ | refine blk_drew ?_ | refine blk_alloc ?_ _)); exact BK203.out) hb); have n3_ := Aside0.mk (below_step (by repeat (first | (with_reducible first | exact HB.out | apply below_alloc | apply pw_below_drewN | apply below_drew1 | refine below_set ?_ GE202.out | refine below_set ?_ GE203.out) | exact HB.out)) hb); clear BK202; clear BK203; clear HB; have HO206 := n0_; have BK202 := n1_; have BK203 := n2_; have HB := n3_; clear n0_ n1_ n2_ n3_; (try clear hb); (try clear hb2); (try clear hk); (try clear hi); (try clear ho0)))
  go_loopg [5] k (fun kq v5 w' => ∃ (x5_1 : Int) (x204001_1 : Int) (x204002_1 : Int), v5 = .int .i64 x5_1 ∧ Aside0 (galleyref05_Sizes.l0 kq l0 t204 x5_1 (l0.length : Int) x204001_1 x204002_1 0 = some (r1, r2, r3, r4)) ∧ Aside0 (kq ≤ k) ∧ Aside0 (Kd.R k61 61 w' w.heap.size (fun _ => True) v205 t204) ∧ Aside0 (w'.heap[gb202]? = some (.cells #[.int .i64 0, .int .i64 0, .int .i64 0, .int .i64 0] 34 (0, 0))) ∧ Aside0 (w'.heap[gb203]? = some (.cells #[.int .i64 (l0.length : Int), .int .i64 x204001_1, .int .i64 x204002_1, .int .i64 0] 34 (0, 0))) ∧ Aside0 (Below w.heap.size w w'))
  case atStart => exact ⟨(0), (0), (0), (by first | rfl | (simp; done) | (simp [*]; done)), H', ⟨Nat.le_refl _⟩, ⟨by (with_reducible repeat (first | apply Kd.R_alloc | apply Kd.R_drewN | apply Kd.R_drew)); exact HO206.out⟩, ⟨by (with_reducible repeat (first | refine blk_drewN ?_ _ | refine blk_drew ?_ | refine blk_alloc ?_ _)); exact BK202.out⟩, ⟨by (with_reducible repeat (first | refine blk_drewN ?_ _ | refine blk_drew ?_ | refine blk_alloc ?_ _)); exact BK203.out⟩, ⟨by repeat (first | (with_reducible first | exact HB.out | apply below_alloc | apply pw_below_drewN | apply below_drew1 | refine below_set ?_ GE202.out | refine below_set ?_ GE203.out) | exact HB.out)⟩⟩
  case round =>
    clear H'
    try clear c1
    try clear c2
    try clear p2
    try clear c5
    try clear hcz6_0
    try clear hcz6_1
    try clear hcz6_2
    try clear hcz6_3
    try clear hfz6_0
    try clear hfz6_1
    try clear hfz6_2
    try clear hfz6_3
    obtain ⟨x5_1, x204001_1, x204002_1, rfl, HA, HK1, HO_4, BK202, BK203, HB⟩ := hrel
    cases gk with
    | zero => exact absurd HA.out (by simp [galleyref05_Sizes.l0])
    | succ k1 =>
      have H := HA.out
      clear HA
      simp only [galleyref05_Sizes.l0] at H
      by_cases c8 : x5_1 < (t204.length : Int)
      · rw [if_pos c8] at H
        have c8b0 : decide (x5_1 < (t204.length : Int)) = true := decide_eq_true c8
        clear c8
        by_cases c9 : 0 ≤ x5_1
        · rw [if_pos c9] at H
          have c9b0 : decide (0 ≤ x5_1) = true := decide_eq_true c9
          clear c9
          replace H := Option.bind_eq_some_iff.mp H
          obtain ⟨t208, A100, H⟩ := H
          replace H : (galleyref05_Sizes.l0 k1 l0 t204 (wrap64 (x5_1 + 1)) (l0.length : Int) (wrap64 (x204001_1 + 1)) (wrap64 (x204002_1 + t208)) 0) = some (r1, r2, r3, r4) := H
          have A10 := Aside0.mk A100
          clear A100
          have H' := Aside0.mk H
          clear H
          obtain ⟨Ao11, co11, eo11⟩ := Kd.R_slice HO_4.out
          subst eo11
          have hnb12 := NB203_202.out
          have hnc12 := NB202_203.out
          have hcz13_0 : wr.cell? ⟨gb203, 0, none⟩ = some (.int .i64 (l0.length : Int)) := (blk_cell BK203.out 0).trans rfl
          have hcz13_1 : wr.cell? ⟨gb203, 1, none⟩ = some (.int .i64 x204001_1) := (blk_cell BK203.out 1).trans rfl
          have hcz13_2 : wr.cell? ⟨gb203, 2, none⟩ = some (.int .i64 x204002_1) := (blk_cell BK203.out 2).trans rfl
          have hcz13_3 : wr.cell? ⟨gb203, 3, none⟩ = some (.int .i64 0) := (blk_cell BK203.out 3).trans rfl
          have hfz13_0 := blk_frozen BK203.out 0
          have hfz13_1 := blk_frozen BK203.out 1
          have hfz13_2 := blk_frozen BK203.out 2
          have hfz13_3 := blk_frozen BK203.out 3
          try go_wp2
          have n0_ : Aside0 (Kd.R k61 61 (wr.setCell ⟨gb203, 1, none⟩ (.int .i64 (wrap64 (x204001_1 + 1)))) w.heap.size (fun _ => True) (.slice Ao11 t204.length co11) t204) := ⟨by (with_reducible repeat (first | apply Kd.R_alloc | apply Kd.R_drewN | apply Kd.R_drew)); exact Kd.R_mono (Kd.R_far (p := ⟨gb203, 1, none⟩) (Kd.R_types HO_4.out BK203.out (by decide)) (fun _ hk => hk.2) (.int .i64 (wrap64 (x204001_1 + 1)))) (fun _ hk => trivial)⟩
          have n1_ : Aside0 ((wr.setCell ⟨gb203, 1, none⟩ (.int .i64 (wrap64 (x204001_1 + 1)))).heap[gb202]? = some (.cells #[.int .i64 0, .int .i64 0, .int .i64 0, .int .i64 0] 34 (0, 0))) := ⟨by (with_reducible repeat (first | refine blk_drewN ?_ _ | refine blk_drew ?_ | refine blk_alloc ?_ _)); refine blk_far ?_ NB202_203.out _; (with_reducible repeat (first | refine blk_drewN ?_ _ | refine blk_drew ?_ | refine blk_alloc ?_ _)); exact BK202.out⟩
          have n2_ : Aside0 ((wr.setCell ⟨gb203, 1, none⟩ (.int .i64 (wrap64 (x204001_1 + 1)))).heap[gb203]? = some (.cells #[.int .i64 (l0.length : Int), .int .i64 (wrap64 (x204001_1 + 1)), .int .i64 x204002_1, .int .i64 0] 34 (0, 0))) := ⟨by (with_reducible repeat (first | refine blk_drewN ?_ _ | refine blk_drew ?_ | refine blk_alloc ?_ _)); refine blk_put (cs := #[.int .i64 (l0.length : Int), .int .i64 x204001_1, .int .i64 x204002_1, .int .i64 0]) ?_ 1 _ rfl; (with_reducible repeat (first | refine blk_drewN ?_ _ | refine blk_drew ?_ | refine blk_alloc ?_ _)); exact BK203.out⟩
          have n3_ : Aside0 (Below w.heap.size w (wr.setCell ⟨gb203, 1, none⟩ (.int .i64 (wrap64 (x204001_1 + 1))))) := ⟨by repeat (first | (with_reducible first | exact HB.out | apply below_alloc | apply pw_below_drewN | apply below_drew1 | refine below_set ?_ GE202.out | refine below_set ?_ GE203.out) | exact HB.out)⟩
          (try clear HO_4)
          (try clear BK202)
          (try clear BK203)
          (try clear HB)
          generalize (wr.setCell ⟨gb203, 1, none⟩ (.int .i64 (wrap64 (x204001_1 + 1)))) = w14 at n0_ n1_ n2_ n3_ ⊢
          have HO_4 := n0_
          have BK202 := n1_
          have BK203 := n2_
          have HB := n3_
          clear n0_ n1_ n2_ n3_
          have n0_ := Aside0.mk (Kd.R_drew HO_4.out)
          have n1_ := Aside0.mk (blk_drew BK202.out)
          have n2_ := Aside0.mk (blk_drew BK203.out)
          have n3_ := Aside0.mk (below_drew1 HB.out)
          clear HO_4
          clear BK202
          clear BK203
          clear HB
          have HO_4 := n0_
          have BK202 := n1_
          have BK203 := n2_
          have HB := n3_
          clear n0_ n1_ n2_ n3_
          have p207 : 0 ≤ (x5_1 : Int) := of_decide_eq_true (by first | (with_reducible assumption) | assumption)
          have q207 : x5_1 < (t204.length : Int) := of_decide_eq_true (by first | (with_reducible assumption) | assumption)
          obtain ⟨ad207, e207, hx207_0, hx207_1, hx207_2⟩ := at_T61 (Kd.R_reads' HO_4.out).2.2 x5_1 p207 q207
          cases e207
          replace p207 := eq_true p207
          replace q207 := eq_true q207
          refine start_ (n := 10) (S := fun w' => w'.cell? ⟨gb203, 0, none⟩ = some (.int .i64 (l0.length : Int)) ∧ w'.cell? ⟨gb203, 1, none⟩ = some (.int .i64 (wrap64 (x204001_1 + 1))) ∧ w'.cell? ⟨gb203, 2, none⟩ = some (.int .i64 x204002_1) ∧ w'.cell? ⟨gb203, 3, none⟩ = some (.int .i64 0) ∧ w'.cell? (ad207.add ((x5_1).toNat * 3)) = some (.int .i32 ((rd_T61 t204 x5_1).f0)) ∧ w'.cell? ⟨(ad207.add ((x5_1).toNat * 3)).block, (ad207.add ((x5_1).toNat * 3)).off + 1, none⟩ = some (.int .i64 ((rd_T61 t204 x5_1).f1)) ∧ w'.cell? ⟨(ad207.add ((x5_1).toNat * 3)).block, (ad207.add ((x5_1).toNat * 3)).off + 2, none⟩ = some (.bool ((rd_T61 t204 x5_1).f2))) (ds := [9]) #[false, false, false, false, false, false, false, false, false, false] (by kernel_rfl) rfl rfl ⟨(blk_cell BK203.out 0).trans rfl, (blk_cell BK203.out 1).trans rfl, (blk_cell BK203.out 2).trans rfl, (blk_cell BK203.out 3).trans rfl, hx207_0, hx207_1, hx207_2⟩ (fun hHeld => ?_); refine with_tabW galleyref05_Sizes.tab7 galleyref05_Sizes.bits7 (fun HT_ HW_ => ?_)
          generalize w14.drew = w15 at HO_4 BK202 BK203 HB hx207_0 hx207_1 hx207_2 hHeld ⊢
          refine pure_ (i := 0) (N := some 22) (v := ?_) (a' := ?_) #[true, false, false, false, false, false, false, false, false, false] rfl rfl (any_of HT_.out (by kernel_rfl)) (fun _ _ _ h => h) (Or.inl ⟨by rfl, ?_⟩) ?_ ?_
          rotate_left
          · intro w'
            go_simp
            with_reducible rfl
          rotate_left
          · simp only [Act.put, List.setIfInBounds_toArray, List.set_cons_zero, List.set_cons_succ, i64_w, i32_w]
            rfl
          refine pure_ (i := 2) (N := some 24) (v := ?_) (a' := ?_) #[true, false, true, false, false, false, false, false, false, false] rfl rfl (any_of HT_.out (by kernel_rfl)) (fun _ _ _ h => h) (Or.inl ⟨by rfl, ?_⟩) ?_ ?_
          rotate_left
          · intro w'
            go_simp
            with_reducible rfl
          rotate_left
          · simp only [Act.put, List.setIfInBounds_toArray, List.set_cons_zero, List.set_cons_succ, i64_w, i32_w]
            rfl
          refine pure_ (i := 3) (N := some 25) (v := ?_) (a' := ?_) #[true, false, true, true, false, false, false, false, false, false] rfl rfl (any_of HT_.out (by kernel_rfl)) (fun _ _ _ h => h) (Or.inl ⟨by rfl, ?_⟩) ?_ ?_
          rotate_left
          · intro w'
            go_simp
            with_reducible rfl
          rotate_left
          · simp only [Act.put, List.setIfInBounds_toArray, List.set_cons_zero, List.set_cons_succ, i64_w, i32_w]
            rfl
          refine pure_ (i := 4) (N := some 26) (v := ?_) (a' := ?_) #[true, false, true, true, true, false, false, false, false, false] rfl rfl (any_of HT_.out (by kernel_rfl)) (fun _ _ _ h => h) (Or.inl ⟨by rfl, ?_⟩) ?_ ?_
          rotate_left
          · intro w'
            go_simp
            with_reducible rfl
          rotate_left
          · simp only [Act.put, List.setIfInBounds_toArray, List.set_cons_zero, List.set_cons_succ, i64_w, i32_w]
            rfl
          refine take_ (i := 1) (N := some 23) (v := ?_) (a' := ?_) #[true, true, true, true, true, false, false, false, false, false] rfl rfl (take_ofW HT_.out HW_.out (by kernel_rfl)) (fun _ _ _ h => h) (Or.inl ⟨by rfl, ?_⟩) hHeld ?_ ?_
          rotate_left
          · rintro w' ⟨s0, s1, s2, s3, s4, s5, s6⟩
            go_simp
            with_reducible rfl
          rotate_left
          · simp only [Act.put, List.setIfInBounds_toArray, List.set_cons_zero, List.set_cons_succ, i64_w, i32_w]
            rfl
          refine take_ (i := 5) (N := some 27) (v := ?_) (a' := ?_) #[true, true, true, true, true, true, false, false, false, false] rfl rfl (take_ofW HT_.out HW_.out (by kernel_rfl)) (fun _ _ _ h => h) (Or.inl ⟨by rfl, ?_⟩) hHeld ?_ ?_
          rotate_left
          · rintro w' ⟨s0, s1, s2, s3, s4, s5, s6⟩
            go_simp
            with_reducible rfl
          rotate_left
          · simp only [Act.put, List.setIfInBounds_toArray, List.set_cons_zero, List.set_cons_succ, i64_w, i32_w]
            rfl
          refine one_ (i := 6) (N := some 28) #[true, true, true, true, true, true, true, false, false, false] rfl rfl (one_of HT_.out (by kernel_rfl)) (by decide) (fun K hK => ?_)
          refine goes_ Tryd.func26 (by kernel_rfl) rfl #[.agg #[.int .i32 ((rd_T61 t204 x5_1).f0), .int .i64 ((rd_T61 t204 x5_1).f1), .bool ((rd_T61 t204 x5_1).f2)]] (by rfl) rfl rfl (by (try simp only [List.map_toArray, List.map_cons, List.map_nil]); first | done | rfl | (simp only [List.length_drop, List.length_take]; rfl)) ?_
          with_reducible refine (galleyref05_units.calls ((rd_T61 t204 x5_1).f0) ((rd_T61 t204 x5_1).f1) ((rd_T61 t204 x5_1).f2) t208 _ A10.out).mono ?_
          rintro e w16 ⟨rfl, hb⟩
          have HS4_ := (hb.cell (World.block_lt_of_cell? _ _ (hHeld.2.2.2.2.1))).trans (hHeld.2.2.2.2.1)
          have HS5_ := (hb.cell (World.block_lt_of_cell? _ _ (hHeld.2.2.2.2.2.1))).trans (hHeld.2.2.2.2.2.1)
          have HS6_ := (hb.cell (World.block_lt_of_cell? _ _ (hHeld.2.2.2.2.2.2))).trans (hHeld.2.2.2.2.2.2)
          refine ⟨_, rfl, ?_⟩
          have n0_ := Aside0.mk (Kd.R_below (by (with_reducible repeat (first | apply Kd.R_alloc | apply Kd.R_drewN | apply Kd.R_drew)); exact HO_4.out) hb)
          have n1_ := Aside0.mk (blk_below (g := gb202) (o := .cells #[.int .i64 0, .int .i64 0, .int .i64 0, .int .i64 0] 34 (0, 0)) (by (with_reducible repeat (first | refine blk_drewN ?_ _ | refine blk_drew ?_ | refine blk_alloc ?_ _)); exact BK202.out) hb)
          have n2_ := Aside0.mk (blk_below (g := gb203) (o := .cells #[.int .i64 (l0.length : Int), .int .i64 (wrap64 (x204001_1 + 1)), .int .i64 x204002_1, .int .i64 0] 34 (0, 0)) (by (with_reducible repeat (first | refine blk_drewN ?_ _ | refine blk_drew ?_ | refine blk_alloc ?_ _)); exact BK203.out) hb)
          have n3_ := Aside0.mk (below_step (by repeat (first | (with_reducible first | exact HB.out | apply below_alloc | apply pw_below_drewN | apply below_drew1 | refine below_set ?_ GE202.out | refine below_set ?_ GE203.out) | exact HB.out)) hb)
          clear HO_4
          clear BK202
          clear BK203
          clear HB
          have HO_4 := n0_
          have BK202 := n1_
          have BK203 := n2_
          have HB := n3_
          clear n0_ n1_ n2_ n3_
          (try clear hb)
          (try clear hb2)
          (try clear hk)
          (try clear hi)
          refine hK.out _ _ ⟨(blk_cell BK203.out 0).trans rfl, (blk_cell BK203.out 1).trans rfl, (blk_cell BK203.out 2).trans rfl, (blk_cell BK203.out 3).trans rfl, HS4_, HS5_, HS6_⟩ (fun hHeld => ?_)
          clear hK K
          refine norm_ (a' := ?_) ?_ ?_
          rotate_left
          · show Act.put _ (some 28) _ = _
            simp only [Act.put, List.setIfInBounds_toArray, List.set_cons_zero, List.set_cons_succ, i64_w, i32_w]
            rfl
          refine pure_ (i := 7) (N := some 29) (v := ?_) (a' := ?_) #[true, true, true, true, true, true, true, true, false, false] rfl rfl (any_of HT_.out (by kernel_rfl)) (fun _ _ _ h => h) (Or.inl ⟨by rfl, ?_⟩) ?_ ?_
          rotate_left
          · intro w'
            go_simp
            with_reducible rfl
          rotate_left
          · simp only [Act.put, List.setIfInBounds_toArray, List.set_cons_zero, List.set_cons_succ, i64_w, i32_w]
            rfl
          refine pure_ (i := 8) (N := some 30) (v := ?_) (a' := ?_) #[true, true, true, true, true, true, true, true, true, false] rfl rfl (any_of HT_.out (by kernel_rfl)) (fun _ _ _ h => h) (Or.inl ⟨by rfl, ?_⟩) ?_ ?_
          rotate_left
          · intro w'
            go_simp
            with_reducible rfl
          rotate_left
          · simp only [Act.put, List.setIfInBounds_toArray, List.set_cons_zero, List.set_cons_succ, i64_w, i32_w]
            rfl
          refine last_ (i := 9) (N := none) #[true, true, true, true, true, true, true, true, true, true] rfl rfl (one_of HT_.out (by kernel_rfl)) (by decide) (fun K hK => ?_)
          have hs17 : w16.cell? ⟨gb203, 2, none⟩ = some (.int .i64 x204002_1) := (blk_cell BK203.out 2).trans rfl
          have hfs17 := blk_frozen BK203.out 2
          have hns17_0 := NB202_203.out
          have hms17_0 := NB203_202.out
          refine skip_ (w1 := ?_) (by rfl) rfl ?_ ?_
          rotate_left
          · go_simp
            rfl
          refine hK.out _ _ ?_
          clear hK K
          refine done_ (done_of HT_.out (by kernel_rfl)) ?_
          try go_wp2
          go_roundg k1
          case measure => have := HK1.out; omega
          case rel => exact ⟨(wrap64 (x5_1 + 1)), (wrap64 (x204001_1 + 1)), (wrap64 (x204002_1 + t208)), (by first | rfl | (simp; done) | (simp [*]; done)), H', ⟨by have := HK1.out; omega⟩, ⟨by (with_reducible repeat (first | apply Kd.R_alloc | apply Kd.R_drewN | apply Kd.R_drew)); exact Kd.R_mono (Kd.R_far (p := ⟨gb203, 2, none⟩) (Kd.R_types HO_4.out BK203.out (by decide)) (fun _ hk => hk.2) (.int .i64 (wrap64 (x204002_1 + t208)))) (fun _ hk => trivial)⟩, ⟨by (with_reducible repeat (first | refine blk_drewN ?_ _ | refine blk_drew ?_ | refine blk_alloc ?_ _)); refine blk_far ?_ NB202_203.out _; (with_reducible repeat (first | refine blk_drewN ?_ _ | refine blk_drew ?_ | refine blk_alloc ?_ _)); exact BK202.out⟩, ⟨by (with_reducible repeat (first | refine blk_drewN ?_ _ | refine blk_drew ?_ | refine blk_alloc ?_ _)); refine blk_put (cs := #[.int .i64 (l0.length : Int), .int .i64 (wrap64 (x204001_1 + 1)), .int .i64 x204002_1, .int .i64 0]) ?_ 2 _ rfl; (with_reducible repeat (first | refine blk_drewN ?_ _ | refine blk_drew ?_ | refine blk_alloc ?_ _)); exact BK203.out⟩, ⟨by repeat (first | (with_reducible first | exact HB.out | apply below_alloc | apply pw_below_drewN | apply below_drew1 | refine below_set ?_ GE202.out | refine below_set ?_ GE203.out) | exact HB.out)⟩⟩
        · rw [if_neg c9] at H
          exact absurd H (by simp)
      · rw [if_neg c8] at H
        have c8b0 : decide (x5_1 < (t204.length : Int)) = false := decide_eq_false c8
        clear c8
        have H' := Aside0.mk H
        clear H
        obtain ⟨Ao18, co18, eo18⟩ := Kd.R_slice HO_4.out
        subst eo18
        go_wp2
        go_loopg [6] k1 (fun kq v6 w' => ∃ (x6_2 : Int) (x204003_2 : Int), v6 = .int .i64 x6_2 ∧ Aside0 (galleyref05_Sizes.l1 kq l0 x6_2 (l0.length : Int) x204001_1 x204002_1 x204003_2 = some (r1, r2, r3, r4)) ∧ Aside0 (kq ≤ k1) ∧ Aside0 (w'.heap[gb202]? = some (.cells #[.int .i64 0, .int .i64 0, .int .i64 0, .int .i64 0] 34 (0, 0))) ∧ Aside0 (w'.heap[gb203]? = some (.cells #[.int .i64 (l0.length : Int), .int .i64 x204001_1, .int .i64 x204002_1, .int .i64 x204003_2] 34 (0, 0))) ∧ Aside0 (Below w.heap.size w w'))
        case atStart => exact ⟨(0), (0), (by first | rfl | (simp; done) | (simp [*]; done)), H', ⟨Nat.le_refl _⟩, ⟨by (with_reducible repeat (first | refine blk_drewN ?_ _ | refine blk_drew ?_ | refine blk_alloc ?_ _)); exact BK202.out⟩, ⟨by (with_reducible repeat (first | refine blk_drewN ?_ _ | refine blk_drew ?_ | refine blk_alloc ?_ _)); exact BK203.out⟩, ⟨by repeat (first | (with_reducible first | exact HB.out | apply below_alloc | apply pw_below_drewN | apply below_drew1 | refine below_set ?_ GE202.out | refine below_set ?_ GE203.out) | exact HB.out)⟩⟩
        case round =>
          clear H'
          try clear c1
          try clear c2
          try clear p2
          try clear q2
          try clear hx2
          try clear c5
          try clear p6
          try clear c8
          try clear c8b0
          try clear c9
          try clear c9b0
          try clear c12
          try clear c14
          try clear hcz13_0
          try clear hcz13_1
          try clear hcz13_2
          try clear hcz13_3
          try clear hcz6_0
          try clear hcz6_1
          try clear hcz6_2
          try clear hcz6_3
          try clear hfz13_0
          try clear hfz13_1
          try clear hfz13_2
          try clear hfz13_3
          try clear hfz6_0
          try clear hfz6_1
          try clear hfz6_2
          try clear hfz6_3
          try clear hx207_0
          try clear hx207_1
          try clear hx207_2
          try clear p2
          try clear p207
          try clear q207
          obtain ⟨x6_2, x204003_2, rfl, HA, HK2, BK202, BK203, HB⟩ := hrel
          cases gk with
          | zero => exact absurd HA.out (by simp [galleyref05_Sizes.l1])
          | succ k2 =>
            have H := HA.out
            clear HA
            simp only [galleyref05_Sizes.l1] at H
            by_cases c19 : x6_2 < (l0.length : Int)
            · rw [if_pos c19] at H
              have c19b0 : decide (x6_2 < (l0.length : Int)) = true := decide_eq_true c19
              clear c19
              by_cases c20 : 0 ≤ x6_2
              · rw [if_pos c20] at H
                have c20b0 : decide (0 ≤ x6_2) = true := decide_eq_true c20
                clear c20
                by_cases c21 : (rd l0 x6_2) = 10
                · rw [if_pos c21] at H
                  have c21b0 : ((rd l0 x6_2) == 10) = true := beq_iff_eq.mpr c21
                  have c21b1 : ((rd l0 x6_2) != 10) = false := bne_eq_false_iff_eq.mpr c21
                  clear c21
                  by_cases c22 : x6_2 = 0
                  · rw [if_pos c22] at H
                    have c22b0 : (x6_2 == 0) = true := beq_iff_eq.mpr c22
                    have c22b1 : (x6_2 != 0) = false := bne_eq_false_iff_eq.mpr c22
                    clear c22
                    have H' := Aside0.mk H
                    clear H
                    have p209 : 0 ≤ (x6_2 : Int) := of_decide_eq_true (by first | (with_reducible assumption) | assumption)
                    have q209 : x6_2 < (l0.length : Int) := of_decide_eq_true (by first | (with_reducible assumption) | assumption)
                    obtain ⟨ad209, e209, hx209_0⟩ := Kd.at_int HR0.out x6_2 p209 q209
                    cases e209
                    replace hx209_0 := (HB.out.cell (World.block_lt_of_cell? w _ hx209_0)).trans hx209_0
                    replace p209 := eq_true p209
                    replace q209 := eq_true q209
                    have hnb23 := NB203_202.out
                    have hnc23 := NB202_203.out
                    have hcz24_0 : wr.cell? ⟨gb203, 0, none⟩ = some (.int .i64 (l0.length : Int)) := (blk_cell BK203.out 0).trans rfl
                    have hcz24_1 : wr.cell? ⟨gb203, 1, none⟩ = some (.int .i64 x204001_1) := (blk_cell BK203.out 1).trans rfl
                    have hcz24_2 : wr.cell? ⟨gb203, 2, none⟩ = some (.int .i64 x204002_1) := (blk_cell BK203.out 2).trans rfl
                    have hcz24_3 : wr.cell? ⟨gb203, 3, none⟩ = some (.int .i64 x204003_2) := (blk_cell BK203.out 3).trans rfl
                    have hfz24_0 := blk_frozen BK203.out 0
                    have hfz24_1 := blk_frozen BK203.out 1
                    have hfz24_2 := blk_frozen BK203.out 2
                    have hfz24_3 := blk_frozen BK203.out 3
                    go_wp2
                    go_roundg k2
                    case measure => have := HK1.out; have := HK2.out; omega
                    case rel => exact ⟨(wrap64 (x6_2 + 1)), (wrap64 (x204003_2 + 1)), (by first | rfl | (simp; done) | (simp [*]; done)), H', ⟨by have := HK1.out; have := HK2.out; omega⟩, ⟨by (with_reducible repeat (first | refine blk_drewN ?_ _ | refine blk_drew ?_ | refine blk_alloc ?_ _)); refine blk_far ?_ NB202_203.out _; (with_reducible repeat (first | refine blk_drewN ?_ _ | refine blk_drew ?_ | refine blk_alloc ?_ _)); exact BK202.out⟩, ⟨by (with_reducible repeat (first | refine blk_drewN ?_ _ | refine blk_drew ?_ | refine blk_alloc ?_ _)); refine blk_put (cs := #[.int .i64 (l0.length : Int), .int .i64 x204001_1, .int .i64 x204002_1, .int .i64 x204003_2]) ?_ 3 _ rfl; (with_reducible repeat (first | refine blk_drewN ?_ _ | refine blk_drew ?_ | refine blk_alloc ?_ _)); exact BK203.out⟩, ⟨by repeat (first | (with_reducible first | exact HB.out | apply below_alloc | apply pw_below_drewN | apply below_drew1 | refine below_set ?_ GE202.out | refine below_set ?_ GE203.out) | exact HB.out)⟩⟩
                  · rw [if_neg c22] at H
                    have c22b0 : (x6_2 == 0) = false := beq_eq_false_iff_ne.mpr c22
                    have c22b1 : (x6_2 != 0) = true := bne_iff_ne.mpr c22
                    obtain ⟨ji25, hji25⟩ : ∃ j_ : Int, (wrap64 (x6_2 - 1)) = j_ := ⟨_, rfl⟩
                    replace H : (if 0 ≤ (ji25) then (if (ji25) < (l0.length : Int) then (if (rd l0 (ji25)) = 13 then (if (rd l0 x6_2) = 13 then (galleyref05_Sizes.l1 k2 l0 (wrap64 (x6_2 + 1)) (l0.length : Int) x204001_1 x204002_1 (wrap64 (x204003_2 + 1))) else (galleyref05_Sizes.l1 k2 l0 (wrap64 (x6_2 + 1)) (l0.length : Int) x204001_1 x204002_1 x204003_2)) else (galleyref05_Sizes.l1 k2 l0 (wrap64 (x6_2 + 1)) (l0.length : Int) x204001_1 x204002_1 (wrap64 (x204003_2 + 1)))) else (none)) else (none)) = some (r1, r2, r3, r4) := by first | (rw [hji25] at H; exact H) | (simp only [hji25] at H ⊢; exact H)
                    have hji25w : (IntKind.i64.wrap (x6_2 - 1)) = ji25 := (i64_w _).trans hji25
                    by_cases c26 : 0 ≤ (ji25)
                    · rw [if_pos c26] at H
                      have c26b0 : decide (0 ≤ (ji25)) = true := decide_eq_true c26
                      clear c26
                      by_cases c27 : (ji25) < (l0.length : Int)
                      · rw [if_pos c27] at H
                        have c27b0 : decide ((ji25) < (l0.length : Int)) = true := decide_eq_true c27
                        clear c27
                        by_cases c28 : (rd l0 (ji25)) = 13
                        · rw [if_pos c28] at H
                          have c28b0 : ((rd l0 (ji25)) == 13) = true := beq_iff_eq.mpr c28
                          have c28b1 : ((rd l0 (ji25)) != 13) = false := bne_eq_false_iff_eq.mpr c28
                          clear c28
                          by_cases c29 : (rd l0 x6_2) = 13
                          · rw [if_pos c29] at H
                            have c29b0 : ((rd l0 x6_2) == 13) = true := beq_iff_eq.mpr c29
                            have c29b1 : ((rd l0 x6_2) != 13) = false := bne_eq_false_iff_eq.mpr c29
                            clear c29
                            have H' := Aside0.mk H
                            clear H
                            have p209 : 0 ≤ (x6_2 : Int) := of_decide_eq_true (by first | (with_reducible assumption) | assumption)
                            have q209 : x6_2 < (l0.length : Int) := of_decide_eq_true (by first | (with_reducible assumption) | assumption)
                            obtain ⟨ad209, e209, hx209_0⟩ := Kd.at_int HR0.out x6_2 p209 q209
                            cases e209
                            replace hx209_0 := (HB.out.cell (World.block_lt_of_cell? w _ hx209_0)).trans hx209_0
                            replace p209 := eq_true p209
                            replace q209 := eq_true q209
                            have p210 : 0 ≤ ((ji25) : Int) := of_decide_eq_true (by first | (with_reducible assumption) | assumption)
                            have q210 : (ji25) < (l0.length : Int) := of_decide_eq_true (by first | (with_reducible assumption) | assumption)
                            obtain ⟨ad210, e210, hx210_0⟩ := Kd.at_int HR0.out (ji25) p210 q210
                            obtain rfl : ad209 = ad210 := (by injection e210)
                            replace hx210_0 := (HB.out.cell (World.block_lt_of_cell? w _ hx210_0)).trans hx210_0
                            replace p210 := eq_true p210
                            replace q210 := eq_true q210
                            have p211 : 0 ≤ (x6_2 : Int) := of_decide_eq_true (by first | (with_reducible assumption) | assumption)
                            have q211 : x6_2 < (l0.length : Int) := of_decide_eq_true (by first | (with_reducible assumption) | assumption)
                            obtain ⟨ad211, e211, hx211_0⟩ := Kd.at_int HR0.out x6_2 p211 q211
                            obtain rfl : ad209 = ad211 := (by injection e211)
                            replace hx211_0 := (HB.out.cell (World.block_lt_of_cell? w _ hx211_0)).trans hx211_0
                            replace p211 := eq_true p211
                            replace q211 := eq_true q211
                            have hnb30 := NB203_202.out
                            have hnc30 := NB202_203.out
                            have hcz31_0 : wr.cell? ⟨gb203, 0, none⟩ = some (.int .i64 (l0.length : Int)) := (blk_cell BK203.out 0).trans rfl
                            have hcz31_1 : wr.cell? ⟨gb203, 1, none⟩ = some (.int .i64 x204001_1) := (blk_cell BK203.out 1).trans rfl
                            have hcz31_2 : wr.cell? ⟨gb203, 2, none⟩ = some (.int .i64 x204002_1) := (blk_cell BK203.out 2).trans rfl
                            have hcz31_3 : wr.cell? ⟨gb203, 3, none⟩ = some (.int .i64 x204003_2) := (blk_cell BK203.out 3).trans rfl
                            have hfz31_0 := blk_frozen BK203.out 0
                            have hfz31_1 := blk_frozen BK203.out 1
                            have hfz31_2 := blk_frozen BK203.out 2
                            have hfz31_3 := blk_frozen BK203.out 3
                            go_wp2
                            go_roundg k2
                            case measure => have := HK1.out; have := HK2.out; omega
                            case rel => exact ⟨(wrap64 (x6_2 + 1)), (wrap64 (x204003_2 + 1)), (by first | rfl | (simp; done) | (simp [*]; done)), H', ⟨by have := HK1.out; have := HK2.out; omega⟩, ⟨by (with_reducible repeat (first | refine blk_drewN ?_ _ | refine blk_drew ?_ | refine blk_alloc ?_ _)); refine blk_far ?_ NB202_203.out _; (with_reducible repeat (first | refine blk_drewN ?_ _ | refine blk_drew ?_ | refine blk_alloc ?_ _)); exact BK202.out⟩, ⟨by (with_reducible repeat (first | refine blk_drewN ?_ _ | refine blk_drew ?_ | refine blk_alloc ?_ _)); refine blk_put (cs := #[.int .i64 (l0.length : Int), .int .i64 x204001_1, .int .i64 x204002_1, .int .i64 x204003_2]) ?_ 3 _ rfl; (with_reducible repeat (first | refine blk_drewN ?_ _ | refine blk_drew ?_ | refine blk_alloc ?_ _)); exact BK203.out⟩, ⟨by repeat (first | (with_reducible first | exact HB.out | apply below_alloc | apply pw_below_drewN | apply below_drew1 | refine below_set ?_ GE202.out | refine below_set ?_ GE203.out) | exact HB.out)⟩⟩
                          · rw [if_neg c29] at H
                            have c29b0 : ((rd l0 x6_2) == 13) = false := beq_eq_false_iff_ne.mpr c29
                            have c29b1 : ((rd l0 x6_2) != 13) = true := bne_iff_ne.mpr c29
                            have H' := Aside0.mk H
                            clear H
                            have p209 : 0 ≤ (x6_2 : Int) := of_decide_eq_true (by first | (with_reducible assumption) | assumption)
                            have q209 : x6_2 < (l0.length : Int) := of_decide_eq_true (by first | (with_reducible assumption) | assumption)
                            obtain ⟨ad209, e209, hx209_0⟩ := Kd.at_int HR0.out x6_2 p209 q209
                            cases e209
                            replace hx209_0 := (HB.out.cell (World.block_lt_of_cell? w _ hx209_0)).trans hx209_0
                            replace p209 := eq_true p209
                            replace q209 := eq_true q209
                            have p210 : 0 ≤ ((ji25) : Int) := of_decide_eq_true (by first | (with_reducible assumption) | assumption)
                            have q210 : (ji25) < (l0.length : Int) := of_decide_eq_true (by first | (with_reducible assumption) | assumption)
                            obtain ⟨ad210, e210, hx210_0⟩ := Kd.at_int HR0.out (ji25) p210 q210
                            obtain rfl : ad209 = ad210 := (by injection e210)
                            replace hx210_0 := (HB.out.cell (World.block_lt_of_cell? w _ hx210_0)).trans hx210_0
                            replace p210 := eq_true p210
                            replace q210 := eq_true q210
                            have p211 : 0 ≤ (x6_2 : Int) := of_decide_eq_true (by first | (with_reducible assumption) | assumption)
                            have q211 : x6_2 < (l0.length : Int) := of_decide_eq_true (by first | (with_reducible assumption) | assumption)
                            obtain ⟨ad211, e211, hx211_0⟩ := Kd.at_int HR0.out x6_2 p211 q211
                            obtain rfl : ad209 = ad211 := (by injection e211)
                            replace hx211_0 := (HB.out.cell (World.block_lt_of_cell? w _ hx211_0)).trans hx211_0
                            replace p211 := eq_true p211
                            replace q211 := eq_true q211
                            go_wp2
                            go_roundg k2
                            case measure => have := HK1.out; have := HK2.out; omega
                            case rel => exact ⟨(wrap64 (x6_2 + 1)), (x204003_2), (by first | rfl | (simp; done) | (simp [*]; done)), H', ⟨by have := HK1.out; have := HK2.out; omega⟩, ⟨by (with_reducible repeat (first | refine blk_drewN ?_ _ | refine blk_drew ?_ | refine blk_alloc ?_ _)); exact BK202.out⟩, ⟨by (with_reducible repeat (first | refine blk_drewN ?_ _ | refine blk_drew ?_ | refine blk_alloc ?_ _)); exact BK203.out⟩, ⟨by repeat (first | (with_reducible first | exact HB.out | apply below_alloc | apply pw_below_drewN | apply below_drew1 | refine below_set ?_ GE202.out | refine below_set ?_ GE203.out) | exact HB.out)⟩⟩
                        · rw [if_neg c28] at H
                          have c28b0 : ((rd l0 (ji25)) == 13) = false := beq_eq_false_iff_ne.mpr c28
                          have c28b1 : ((rd l0 (ji25)) != 13) = true := bne_iff_ne.mpr c28
                          have H' := Aside0.mk H
                          clear H
                          have p209 : 0 ≤ (x6_2 : Int) := of_decide_eq_true (by first | (with_reducible assumption) | assumption)
                          have q209 : x6_2 < (l0.length : Int) := of_decide_eq_true (by first | (with_reducible assumption) | assumption)
                          obtain ⟨ad209, e209, hx209_0⟩ := Kd.at_int HR0.out x6_2 p209 q209
                          cases e209
                          replace hx209_0 := (HB.out.cell (World.block_lt_of_cell? w _ hx209_0)).trans hx209_0
                          replace p209 := eq_true p209
                          replace q209 := eq_true q209
                          have p210 : 0 ≤ ((ji25) : Int) := of_decide_eq_true (by first | (with_reducible assumption) | assumption)
                          have q210 : (ji25) < (l0.length : Int) := of_decide_eq_true (by first | (with_reducible assumption) | assumption)
                          obtain ⟨ad210, e210, hx210_0⟩ := Kd.at_int HR0.out (ji25) p210 q210
                          obtain rfl : ad209 = ad210 := (by injection e210)
                          replace hx210_0 := (HB.out.cell (World.block_lt_of_cell? w _ hx210_0)).trans hx210_0
                          replace p210 := eq_true p210
                          replace q210 := eq_true q210
                          have hnb32 := NB203_202.out
                          have hnc32 := NB202_203.out
                          have hcz33_0 : wr.cell? ⟨gb203, 0, none⟩ = some (.int .i64 (l0.length : Int)) := (blk_cell BK203.out 0).trans rfl
                          have hcz33_1 : wr.cell? ⟨gb203, 1, none⟩ = some (.int .i64 x204001_1) := (blk_cell BK203.out 1).trans rfl
                          have hcz33_2 : wr.cell? ⟨gb203, 2, none⟩ = some (.int .i64 x204002_1) := (blk_cell BK203.out 2).trans rfl
                          have hcz33_3 : wr.cell? ⟨gb203, 3, none⟩ = some (.int .i64 x204003_2) := (blk_cell BK203.out 3).trans rfl
                          have hfz33_0 := blk_frozen BK203.out 0
                          have hfz33_1 := blk_frozen BK203.out 1
                          have hfz33_2 := blk_frozen BK203.out 2
                          have hfz33_3 := blk_frozen BK203.out 3
                          go_wp2
                          go_roundg k2
                          case measure => have := HK1.out; have := HK2.out; omega
                          case rel => exact ⟨(wrap64 (x6_2 + 1)), (wrap64 (x204003_2 + 1)), (by first | rfl | (simp; done) | (simp [*]; done)), H', ⟨by have := HK1.out; have := HK2.out; omega⟩, ⟨by (with_reducible repeat (first | refine blk_drewN ?_ _ | refine blk_drew ?_ | refine blk_alloc ?_ _)); refine blk_far ?_ NB202_203.out _; (with_reducible repeat (first | refine blk_drewN ?_ _ | refine blk_drew ?_ | refine blk_alloc ?_ _)); exact BK202.out⟩, ⟨by (with_reducible repeat (first | refine blk_drewN ?_ _ | refine blk_drew ?_ | refine blk_alloc ?_ _)); refine blk_put (cs := #[.int .i64 (l0.length : Int), .int .i64 x204001_1, .int .i64 x204002_1, .int .i64 x204003_2]) ?_ 3 _ rfl; (with_reducible repeat (first | refine blk_drewN ?_ _ | refine blk_drew ?_ | refine blk_alloc ?_ _)); exact BK203.out⟩, ⟨by repeat (first | (with_reducible first | exact HB.out | apply below_alloc | apply pw_below_drewN | apply below_drew1 | refine below_set ?_ GE202.out | refine below_set ?_ GE203.out) | exact HB.out)⟩⟩
                      · rw [if_neg c27] at H
                        exact absurd H (by simp)
                    · rw [if_neg c26] at H
                      exact absurd H (by simp)
                · rw [if_neg c21] at H
                  have c21b0 : ((rd l0 x6_2) == 10) = false := beq_eq_false_iff_ne.mpr c21
                  have c21b1 : ((rd l0 x6_2) != 10) = true := bne_iff_ne.mpr c21
                  by_cases c34 : (rd l0 x6_2) = 13
                  · rw [if_pos c34] at H
                    have c34b0 : ((rd l0 x6_2) == 13) = true := beq_iff_eq.mpr c34
                    have c34b1 : ((rd l0 x6_2) != 13) = false := bne_eq_false_iff_eq.mpr c34
                    clear c34
                    have H' := Aside0.mk H
                    clear H
                    have p209 : 0 ≤ (x6_2 : Int) := of_decide_eq_true (by first | (with_reducible assumption) | assumption)
                    have q209 : x6_2 < (l0.length : Int) := of_decide_eq_true (by first | (with_reducible assumption) | assumption)
                    obtain ⟨ad209, e209, hx209_0⟩ := Kd.at_int HR0.out x6_2 p209 q209
                    cases e209
                    replace hx209_0 := (HB.out.cell (World.block_lt_of_cell? w _ hx209_0)).trans hx209_0
                    replace p209 := eq_true p209
                    replace q209 := eq_true q209
                    have p212 : 0 ≤ (x6_2 : Int) := of_decide_eq_true (by first | (with_reducible assumption) | assumption)
                    have q212 : x6_2 < (l0.length : Int) := of_decide_eq_true (by first | (with_reducible assumption) | assumption)
                    obtain ⟨ad212, e212, hx212_0⟩ := Kd.at_int HR0.out x6_2 p212 q212
                    obtain rfl : ad209 = ad212 := (by injection e212)
                    replace hx212_0 := (HB.out.cell (World.block_lt_of_cell? w _ hx212_0)).trans hx212_0
                    replace p212 := eq_true p212
                    replace q212 := eq_true q212
                    have hnb35 := NB203_202.out
                    have hnc35 := NB202_203.out
                    have hcz36_0 : wr.cell? ⟨gb203, 0, none⟩ = some (.int .i64 (l0.length : Int)) := (blk_cell BK203.out 0).trans rfl
                    have hcz36_1 : wr.cell? ⟨gb203, 1, none⟩ = some (.int .i64 x204001_1) := (blk_cell BK203.out 1).trans rfl
                    have hcz36_2 : wr.cell? ⟨gb203, 2, none⟩ = some (.int .i64 x204002_1) := (blk_cell BK203.out 2).trans rfl
                    have hcz36_3 : wr.cell? ⟨gb203, 3, none⟩ = some (.int .i64 x204003_2) := (blk_cell BK203.out 3).trans rfl
                    have hfz36_0 := blk_frozen BK203.out 0
                    have hfz36_1 := blk_frozen BK203.out 1
                    have hfz36_2 := blk_frozen BK203.out 2
                    have hfz36_3 := blk_frozen BK203.out 3
                    go_wp2
                    go_roundg k2
                    case measure => have := HK1.out; have := HK2.out; omega
                    case rel => exact ⟨(wrap64 (x6_2 + 1)), (wrap64 (x204003_2 + 1)), (by first | rfl | (simp; done) | (simp [*]; done)), H', ⟨by have := HK1.out; have := HK2.out; omega⟩, ⟨by (with_reducible repeat (first | refine blk_drewN ?_ _ | refine blk_drew ?_ | refine blk_alloc ?_ _)); refine blk_far ?_ NB202_203.out _; (with_reducible repeat (first | refine blk_drewN ?_ _ | refine blk_drew ?_ | refine blk_alloc ?_ _)); exact BK202.out⟩, ⟨by (with_reducible repeat (first | refine blk_drewN ?_ _ | refine blk_drew ?_ | refine blk_alloc ?_ _)); refine blk_put (cs := #[.int .i64 (l0.length : Int), .int .i64 x204001_1, .int .i64 x204002_1, .int .i64 x204003_2]) ?_ 3 _ rfl; (with_reducible repeat (first | refine blk_drewN ?_ _ | refine blk_drew ?_ | refine blk_alloc ?_ _)); exact BK203.out⟩, ⟨by repeat (first | (with_reducible first | exact HB.out | apply below_alloc | apply pw_below_drewN | apply below_drew1 | refine below_set ?_ GE202.out | refine below_set ?_ GE203.out) | exact HB.out)⟩⟩
                  · rw [if_neg c34] at H
                    have c34b0 : ((rd l0 x6_2) == 13) = false := beq_eq_false_iff_ne.mpr c34
                    have c34b1 : ((rd l0 x6_2) != 13) = true := bne_iff_ne.mpr c34
                    have H' := Aside0.mk H
                    clear H
                    have p209 : 0 ≤ (x6_2 : Int) := of_decide_eq_true (by first | (with_reducible assumption) | assumption)
                    have q209 : x6_2 < (l0.length : Int) := of_decide_eq_true (by first | (with_reducible assumption) | assumption)
                    obtain ⟨ad209, e209, hx209_0⟩ := Kd.at_int HR0.out x6_2 p209 q209
                    cases e209
                    replace hx209_0 := (HB.out.cell (World.block_lt_of_cell? w _ hx209_0)).trans hx209_0
                    replace p209 := eq_true p209
                    replace q209 := eq_true q209
                    have p212 : 0 ≤ (x6_2 : Int) := of_decide_eq_true (by first | (with_reducible assumption) | assumption)
                    have q212 : x6_2 < (l0.length : Int) := of_decide_eq_true (by first | (with_reducible assumption) | assumption)
                    obtain ⟨ad212, e212, hx212_0⟩ := Kd.at_int HR0.out x6_2 p212 q212
                    obtain rfl : ad209 = ad212 := (by injection e212)
                    replace hx212_0 := (HB.out.cell (World.block_lt_of_cell? w _ hx212_0)).trans hx212_0
                    replace p212 := eq_true p212
                    replace q212 := eq_true q212
                    go_wp2
                    go_roundg k2
                    case measure => have := HK1.out; have := HK2.out; omega
                    case rel => exact ⟨(wrap64 (x6_2 + 1)), (x204003_2), (by first | rfl | (simp; done) | (simp [*]; done)), H', ⟨by have := HK1.out; have := HK2.out; omega⟩, ⟨by (with_reducible repeat (first | refine blk_drewN ?_ _ | refine blk_drew ?_ | refine blk_alloc ?_ _)); exact BK202.out⟩, ⟨by (with_reducible repeat (first | refine blk_drewN ?_ _ | refine blk_drew ?_ | refine blk_alloc ?_ _)); exact BK203.out⟩, ⟨by repeat (first | (with_reducible first | exact HB.out | apply below_alloc | apply pw_below_drewN | apply below_drew1 | refine below_set ?_ GE202.out | refine below_set ?_ GE203.out) | exact HB.out)⟩⟩
              · rw [if_neg c20] at H
                exact absurd H (by simp)
            · rw [if_neg c19] at H
              have c19b0 : decide (x6_2 < (l0.length : Int)) = false := decide_eq_false c19
              clear c19
              simp only [Option.some.injEq, Prod.mk.injEq] at H
              obtain ⟨rfl, rfl, rfl, rfl⟩ := H
              have hnb37 := NB203_202.out
              have hnc37 := NB202_203.out
              have hcz38_0 : wr.cell? ⟨gb203, 0, none⟩ = some (.int .i64 (l0.length : Int)) := (blk_cell BK203.out 0).trans rfl
              have hcz38_1 : wr.cell? ⟨gb203, 1, none⟩ = some (.int .i64 x204001_1) := (blk_cell BK203.out 1).trans rfl
              have hcz38_2 : wr.cell? ⟨gb203, 2, none⟩ = some (.int .i64 x204002_1) := (blk_cell BK203.out 2).trans rfl
              have hcz38_3 : wr.cell? ⟨gb203, 3, none⟩ = some (.int .i64 x204003_2) := (blk_cell BK203.out 3).trans rfl
              have hfz38_0 := blk_frozen BK203.out 0
              have hfz38_1 := blk_frozen BK203.out 1
              have hfz38_2 := blk_frozen BK203.out 2
              have hfz38_3 := blk_frozen BK203.out 3
              have hcz39_0 : wr.cell? ⟨gb202, 0, none⟩ = some (.int .i64 0) := (blk_cell BK202.out 0).trans rfl
              have hcz39_1 : wr.cell? ⟨gb202, 1, none⟩ = some (.int .i64 0) := (blk_cell BK202.out 1).trans rfl
              have hcz39_2 : wr.cell? ⟨gb202, 2, none⟩ = some (.int .i64 0) := (blk_cell BK202.out 2).trans rfl
              have hcz39_3 : wr.cell? ⟨gb202, 3, none⟩ = some (.int .i64 0) := (blk_cell BK202.out 3).trans rfl
              have hfz39_0 := blk_frozen BK202.out 0
              have hfz39_1 := blk_frozen BK202.out 1
              have hfz39_2 := blk_frozen BK202.out 2
              have hfz39_3 := blk_frozen BK202.out 3
              go_wp2
              refine bodyPost_ret (results_cell_row rfl _ _ gb202 34 #[.int .i64 (l0.length : Int), .int .i64 x204001_1, .int .i64 x204002_1, .int .i64 x204003_2] (0, 0) _ rfl (by (with_reducible repeat (first | refine blk_drewN ?_ _ | refine blk_drew ?_ | refine blk_alloc ?_ _)); refine blk_put (cs := #[.int .i64 (l0.length : Int), .int .i64 x204001_1, .int .i64 x204002_1, .int .i64 0]) ?_ 3 _ rfl; (with_reducible repeat (first | refine blk_drewN ?_ _ | refine blk_drew ?_ | refine blk_alloc ?_ _)); refine blk_put (cs := #[.int .i64 (l0.length : Int), .int .i64 x204001_1, .int .i64 0, .int .i64 0]) ?_ 2 _ rfl; (with_reducible repeat (first | refine blk_drewN ?_ _ | refine blk_drew ?_ | refine blk_alloc ?_ _)); refine blk_put (cs := #[.int .i64 (l0.length : Int), .int .i64 0, .int .i64 0, .int .i64 0]) ?_ 1 _ rfl; (with_reducible repeat (first | refine blk_drewN ?_ _ | refine blk_drew ?_ | refine blk_alloc ?_ _)); refine blk_put (cs := #[.int .i64 0, .int .i64 0, .int .i64 0, .int .i64 0]) ?_ 0 _ rfl; (with_reducible repeat (first | refine blk_drewN ?_ _ | refine blk_drew ?_ | refine blk_alloc ?_ _)); exact BK202.out) Tryd.underlying34 rfl (by kernel_rfl)) rfl ?_
              exact ⟨by first | rfl | (simp [errW_none, errW_some] <;> rfl) | (simp [*, errW_none, errW_some] <;> rfl), by repeat (first | (with_reducible first | exact HB.out | apply below_alloc | apply pw_below_drewN | apply below_drew1 | refine below_set ?_ GE202.out | refine below_set ?_ GE203.out) | exact HB.out)⟩

-- NOT PRINTED: function 4 (galleylaw08_LeafBorders)

-- NOT PRINTED: function 16 (leaf_Leaf_Split)

-- NOT PRINTED: function 5 (galleylaw08_LeafNil)

end Go.Proofs.YtiolhoaoepgmcaaDoor.Pr
