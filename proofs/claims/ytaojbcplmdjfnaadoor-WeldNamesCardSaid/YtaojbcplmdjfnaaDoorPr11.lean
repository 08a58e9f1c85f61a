-- Laid by wip/drive/drive.py of this proof's repo (a driver over the kit's print): not typed by hand, not trusted: Lean checks it.
import Derived.Test.YtaojbcplmdjfnaaDoorPr0
import Derived.Test.YtaojbcplmdjfnaaDoorPr5
import Derived.Test.YtaojbcplmdjfnaaDoorFFixed5
namespace Go.Proofs.YtaojbcplmdjfnaaDoor.Pr
open Go.RowKit Go.Proofs.YtaojbcplmdjfnaaDoorW.PrintWords Go.Proofs.YtaojbcplmdjfnaaDoorW.PrintLast Go.Proofs.YtaojbcplmdjfnaaDoorW.PrintMore
attribute [local go_sem] max2_int min2_int max_two min_two max_three min_three max_four min_four   -- for this text's walks alone
set_option linter.unusedVariables false
set_option linter.unusedSimpArgs false

/-! ### galleylaw05_WeldNames: function 3 -/
def galleylaw05_WeldNames.l0 : Nat → List (S26) → Int → Int → Option (Bool)
  | 0, _, _, _ => none
  | k + 1, x15, x16, x17 => if x17 < x16 then (if 0 ≤ x17 then (if x17 < (x15.length : Int) then ((weld_Valid.f k ((rd_T26 x15 x17).f0.f0) ((rd_T26 x15 x17).f0.f1) ((rd_T26 x15 x17).f0.f2) ((rd_T26 x15 x17).f0.f3) ((rd_T26 x15 x17).f1) ((rd_T26 x15 x17).f2)).bind fun t207 => (if t207 = true then (none) else (galleylaw05_WeldNames.l0 k x15 x16 (wrap64 (x17 + 1))))) else (none)) else (none)) else ((weld_Valid.f k 8 2 4 0 (⟨#[240, 159, 152]⟩ : ByteArray) (⟨#[159, 152, 128]⟩ : ByteArray)).bind fun t208 => (if t208 = true then ((weld_Valid.f k 0 0 0 0 (⟨#[]⟩ : ByteArray) (⟨#[]⟩ : ByteArray)).bind fun t209 => (some t209)) else (none)))
def galleylaw05_WeldNames.f (k : Nat)  : Option (Bool) := (galleylaw05_fixed.f).bind fun t201 => (if t201 = true then ((some (([(⟨(⟨1, 1, 1, 0⟩ : S24), (⟨#[195]⟩ : ByteArray), (⟨#[169]⟩ : ByteArray)⟩ : S26), (⟨(⟨2, 1, 1, 0⟩ : S24), (⟨#[195, 97]⟩ : ByteArray), (⟨#[195, 97]⟩ : ByteArray)⟩ : S26), (⟨(⟨7, 1, 1, 0⟩ : S24), (⟨#[97, 97, 97]⟩ : ByteArray), (⟨#[97, 97, 97]⟩ : ByteArray)⟩ : S26)] : List (S26)) : List (S26))).bind fun y202 => (galleylaw05_WeldNames.l0 k y202 (y202.length : Int) 0)) else (none))
theorem galleylaw05_WeldNames.mono_l : ∀ k, (∀ y0 y1 y2, LeO (galleylaw05_WeldNames.l0 k y0 y1 y2) (galleylaw05_WeldNames.l0 (k + 1) y0 y1 y2))
  | 0 => fun _ _ _ r h => by simp [galleylaw05_WeldNames.l0] at h
  | k + 1 => by
    have ih0 := galleylaw05_WeldNames.mono_l k
    · intro y0 y1 y2
      unfold galleylaw05_WeldNames.l0
      repeat' first
      | (with_reducible exact ih0 _ _ _)
      | (with_reducible exact weld_Valid.mono _ _ _ _ _ _ _)
      | (with_reducible exact LeO.refl _)
      | (with_reducible exact LeO.none _)
      | (with_reducible refine LeO.ite ?_ ?_)
      | (with_reducible refine LeO.bind ?_ (fun _ => ?_))
      | exact ih0 _ _ _
      | exact weld_Valid.mono _ _ _ _ _ _ _
      | exact LeO.none _
      | refine LeO.ite ?_ ?_
      | refine LeO.bind ?_ (fun _ => ?_)
theorem galleylaw05_WeldNames.mono : ∀ k, LeO (galleylaw05_WeldNames.f k ) (galleylaw05_WeldNames.f (k + 1) ) := by
  intro  k
  have ih0 := galleylaw05_WeldNames.mono_l k
  unfold galleylaw05_WeldNames.f
  repeat' first
      | (with_reducible exact ih0 _ _ _)
      | (with_reducible exact weld_Valid.mono _ _ _ _ _ _ _)
      | (with_reducible exact LeO.refl _)
      | (with_reducible exact LeO.none _)
      | (with_reducible refine LeO.ite ?_ ?_)
      | (with_reducible refine LeO.bind ?_ (fun _ => ?_))
      | exact ih0 _ _ _
      | exact weld_Valid.mono _ _ _ _ _ _ _
      | exact LeO.none _
      | refine LeO.ite ?_ ?_
      | refine LeO.bind ?_ (fun _ => ?_)
set_option maxHeartbeats 8000000 in
set_option maxRecDepth 100000 in
theorem galleylaw05_WeldNames.calls (k : Nat)  (r : Bool) (w : World) (hG : Glob.Globs w) (h : galleylaw05_WeldNames.f k  = some r) :
    Calls Tryd.prog 3 #[] w fun e w' => e = .returned (.bool r) ∧ Below w.heap.size w w' := by
  have hu24 := Tryd.underlying24
  have hu26 := Tryd.underlying26
  have HG := Aside0.mk hG
  clear hG
  have HB := Aside0.mk (Below.refl w.heap.size w)
  have H : ((galleylaw05_fixed.f).bind fun t201 => (if t201 = true then ((some (([(⟨(⟨1, 1, 1, 0⟩ : S24), (⟨#[195]⟩ : ByteArray), (⟨#[169]⟩ : ByteArray)⟩ : S26), (⟨(⟨2, 1, 1, 0⟩ : S24), (⟨#[195, 97]⟩ : ByteArray), (⟨#[195, 97]⟩ : ByteArray)⟩ : S26), (⟨(⟨7, 1, 1, 0⟩ : S24), (⟨#[97, 97, 97]⟩ : ByteArray), (⟨#[97, 97, 97]⟩ : ByteArray)⟩ : S26)] : List (S26)) : List (S26))).bind fun y202 => (galleylaw05_WeldNames.l0 k y202 (y202.length : Int) 0)) else (none))) = some r := h
  clear h
  replace H := Option.bind_eq_some_iff.mp H
  obtain ⟨t201, A10, H⟩ := H
  replace H : (if t201 = true then ((some (([(⟨(⟨1, 1, 1, 0⟩ : S24), (⟨#[195]⟩ : ByteArray), (⟨#[169]⟩ : ByteArray)⟩ : S26), (⟨(⟨2, 1, 1, 0⟩ : S24), (⟨#[195, 97]⟩ : ByteArray), (⟨#[195, 97]⟩ : ByteArray)⟩ : S26), (⟨(⟨7, 1, 1, 0⟩ : S24), (⟨#[97, 97, 97]⟩ : ByteArray), (⟨#[97, 97, 97]⟩ : ByteArray)⟩ : S26)] : List (S26)) : List (S26))).bind fun y202 => (galleylaw05_WeldNames.l0 k y202 (y202.length : Int) 0)) else (none)) = some r := H
  have A1 := Aside0.mk A10
  clear A10
  by_cases c2 : t201 = true
  · subst c2
    have H1 : ((some (([(⟨(⟨1, 1, 1, 0⟩ : S24), (⟨#[195]⟩ : ByteArray), (⟨#[169]⟩ : ByteArray)⟩ : S26), (⟨(⟨2, 1, 1, 0⟩ : S24), (⟨#[195, 97]⟩ : ByteArray), (⟨#[195, 97]⟩ : ByteArray)⟩ : S26), (⟨(⟨7, 1, 1, 0⟩ : S24), (⟨#[97, 97, 97]⟩ : ByteArray), (⟨#[97, 97, 97]⟩ : ByteArray)⟩ : S26)] : List (S26)) : List (S26))).bind fun y202 => (galleylaw05_WeldNames.l0 k y202 (y202.length : Int) 0)) = some r := by rw [if_pos rfl] at H; exact H
    clear H
    have H := H1
    clear H1
    obtain ⟨y202, hy202⟩ : ∃ y_ : List (S26), y_ = (([(⟨(⟨1, 1, 1, 0⟩ : S24), (⟨#[195]⟩ : ByteArray), (⟨#[169]⟩ : ByteArray)⟩ : S26), (⟨(⟨2, 1, 1, 0⟩ : S24), (⟨#[195, 97]⟩ : ByteArray), (⟨#[195, 97]⟩ : ByteArray)⟩ : S26), (⟨(⟨7, 1, 1, 0⟩ : S24), (⟨#[97, 97, 97]⟩ : ByteArray), (⟨#[97, 97, 97]⟩ : ByteArray)⟩ : S26)] : List (S26))) := ⟨_, rfl⟩
    replace H : (galleylaw05_WeldNames.l0 k y202 (y202.length : Int) 0) = some r := by first | (rw [hy202]; with_reducible exact H) | (have H2_ := (Option.bind_some _ _).symm.trans H; rw [hy202]; with_reducible exact H2_) | (have H2_ := (Option.bind_some _ _).symm.trans H; with_reducible exact H2_) | with_reducible exact H | (rw [hy202]; exact H) | exact H
    have Ny202 := Aside0.mk hy202
    clear hy202
    have H' := Aside0.mk H
    clear H
    go_enter Tryd.func3, Tryd.ntmps3
    go_wp2_with (first | (go_at_call 10; (with_reducible refine (galleylaw05_fixed.calls  true _ ?side1 A1.out).mono ?_); (case side1 => first | (with_reducible exact HG.out) | exact Glob.Globs_below HG.out (by repeat (first | (with_reducible first | exact HB.out | apply below_alloc | apply pw_below_drewN | apply below_drew1) | exact HB.out))); rintro e w3 ⟨rfl, hb⟩; have n0_ := Aside0.mk (below_step (by repeat (first | (with_reducible first | exact HB.out | apply below_alloc | apply pw_below_drewN | apply below_drew1) | exact HB.out)) hb); clear HB; have HB := n0_; clear n0_; (try clear hb); (try clear hb2); (try clear hk); (try clear hi)) | ((with_reducible refine gate_dst (N := 14) rfl ?_); refine Kd.R_lit k26 _ 26 ?hg (N := 14) ?hd (xs := ([(⟨(⟨1, 1, 1, 0⟩ : S24), (⟨#[195]⟩ : ByteArray), (⟨#[169]⟩ : ByteArray)⟩ : S26), (⟨(⟨2, 1, 1, 0⟩ : S24), (⟨#[195, 97]⟩ : ByteArray), (⟨#[195, 97]⟩ : ByteArray)⟩ : S26), (⟨(⟨7, 1, 1, 0⟩ : S24), (⟨#[97, 97, 97]⟩ : ByteArray), (⟨#[97, 97, 97]⟩ : ByteArray)⟩ : S26)] : List (S26))) (inner := [.int .i64 1, .int .i64 1, .int .i64 1, .int .i64 0, .string (⟨#[195]⟩ : ByteArray), .string (⟨#[169]⟩ : ByteArray), .int .i64 2, .int .i64 1, .int .i64 1, .int .i64 0, .string (⟨#[195, 97]⟩ : ByteArray), .string (⟨#[195, 97]⟩ : ByteArray), .int .i64 7, .int .i64 1, .int .i64 1, .int .i64 0, .string (⟨#[97, 97, 97]⟩ : ByteArray), .string (⟨#[97, 97, 97]⟩ : ByteArray)]) (ok := fun _ => True) (okp := fun _ => True) ?hr ?hp (fun _ hk => hk) trivial (Below.refl _ _) (Nat.le_refl _) (by simp) ?_; (case hd => rfl); (case hg => rfl); (case hr => first | (go_simp; done) | (go_simp; rfl)); (case hp => exact (Reps.c6 (show Kd.M k26 _ _ _ (⟨(⟨1, 1, 1, 0⟩ : S24), (⟨#[195]⟩ : ByteArray), (⟨#[169]⟩ : ByteArray)⟩ : S26) [.int .i64 1, .int .i64 1, .int .i64 1, .int .i64 0, .string (⟨#[195]⟩ : ByteArray), .string (⟨#[169]⟩ : ByteArray)] from (k26_mkM _ _ _ (⟨(⟨1, 1, 1, 0⟩ : S24), (⟨#[195]⟩ : ByteArray), (⟨#[169]⟩ : ByteArray)⟩ : S26) )) (Reps.c6 (show Kd.M k26 _ _ _ (⟨(⟨2, 1, 1, 0⟩ : S24), (⟨#[195, 97]⟩ : ByteArray), (⟨#[195, 97]⟩ : ByteArray)⟩ : S26) [.int .i64 2, .int .i64 1, .int .i64 1, .int .i64 0, .string (⟨#[195, 97]⟩ : ByteArray), .string (⟨#[195, 97]⟩ : ByteArray)] from (k26_mkM _ _ _ (⟨(⟨2, 1, 1, 0⟩ : S24), (⟨#[195, 97]⟩ : ByteArray), (⟨#[195, 97]⟩ : ByteArray)⟩ : S26) )) (Reps.c6 (show Kd.M k26 _ _ _ (⟨(⟨7, 1, 1, 0⟩ : S24), (⟨#[97, 97, 97]⟩ : ByteArray), (⟨#[97, 97, 97]⟩ : ByteArray)⟩ : S26) [.int .i64 7, .int .i64 1, .int .i64 1, .int .i64 0, .string (⟨#[97, 97, 97]⟩ : ByteArray), .string (⟨#[97, 97, 97]⟩ : ByteArray)] from (k26_mkM _ _ _ (⟨(⟨7, 1, 1, 0⟩ : S24), (⟨#[97, 97, 97]⟩ : ByteArray), (⟨#[97, 97, 97]⟩ : ByteArray)⟩ : S26) )) (Reps.none _ _))))); intro v203 w4 ho5 hb hg_ hnew_; clear hg_ hnew_; (first | rw [← Ny202.out] at ho5 | (simp only [Int.reduceToNat] at ho5; rw [← Ny202.out] at ho5)); have n0_ := Aside0.mk (Kd.R_lower ho5 (below_size (by repeat (first | (with_reducible first | exact HB.out | apply below_alloc | apply pw_below_drewN | apply below_drew1) | exact HB.out)))); have n1_ := Aside0.mk (below_step (by repeat (first | (with_reducible first | exact HB.out | apply below_alloc | apply pw_below_drewN | apply below_drew1) | exact HB.out)) hb); clear HB; have HO204 := n0_; have HB := n1_; clear n0_ n1_; clear hb ho5; obtain ⟨Ao6, co6, eo6⟩ := Kd.R_slice HO204.out; subst eo6))
    go_loopg [17] k (fun kq v17 w' => ∃ (x17_1 : Int), v17 = .int .i64 x17_1 ∧ Aside0 (galleylaw05_WeldNames.l0 kq y202 (y202.length : Int) x17_1 = some r) ∧ Aside0 (kq ≤ k) ∧ Aside0 (Kd.R k26 26 w' w.heap.size (fun _ => True) (.slice Ao6 y202.length co6) y202) ∧ Aside0 (Below w.heap.size w w'))
    case atStart => exact ⟨(0), (by first | rfl | (simp; done) | (simp [*]; done)), H', ⟨Nat.le_refl _⟩, ⟨by (with_reducible repeat (first | apply Kd.R_alloc | apply Kd.R_drewN | apply Kd.R_drew)); exact HO204.out⟩, ⟨by repeat (first | (with_reducible first | exact HB.out | apply below_alloc | apply pw_below_drewN | apply below_drew1) | exact HB.out)⟩⟩
    case round =>
      clear H'
      try clear c2
      try clear p2
      try clear c3
      try clear c6
      obtain ⟨x17_1, rfl, HA, HK1, HO_15, HB⟩ := hrel
      cases gk with
      | zero => exact absurd HA.out (by simp [galleylaw05_WeldNames.l0])
      | succ k1 =>
        have H := HA.out
        clear HA
        simp only [galleylaw05_WeldNames.l0] at H
        by_cases c7 : x17_1 < (y202.length : Int)
        · rw [if_pos c7] at H
          have c7b0 : decide (x17_1 < (y202.length : Int)) = true := decide_eq_true c7
          clear c7
          by_cases c8 : 0 ≤ x17_1
          · rw [if_pos c8] at H
            have c8b0 : decide (0 ≤ x17_1) = true := decide_eq_true c8
            clear c8
            by_cases c9 : x17_1 < (y202.length : Int)
            · rw [if_pos c9] at H
              have c9b0 : decide (x17_1 < (y202.length : Int)) = true := decide_eq_true c9
              clear c9
              replace H := Option.bind_eq_some_iff.mp H
              obtain ⟨t207, A100, H⟩ := H
              replace H : (if t207 = true then (none) else (galleylaw05_WeldNames.l0 k1 y202 (y202.length : Int) (wrap64 (x17_1 + 1)))) = some r := H
              have A10 := Aside0.mk A100
              clear A100
              by_cases c11 : t207 = true
              · subst c11
                have H1 : (none) = some r := by rw [if_pos rfl] at H; exact H
                clear H
                have H := H1
                clear H1
                exact absurd H (by simp)
              · replace c11 := Bool.eq_false_iff.mpr c11
                subst c11
                have H1 : (galleylaw05_WeldNames.l0 k1 y202 (y202.length : Int) (wrap64 (x17_1 + 1))) = some r := by rw [if_neg (show ¬ (false = true) by decide)] at H; exact H
                clear H
                have H := H1
                clear H1
                have H' := Aside0.mk H
                clear H
                have p205 : 0 ≤ (x17_1 : Int) := of_decide_eq_true (by first | (with_reducible assumption) | assumption)
                have q205 : x17_1 < (y202.length : Int) := of_decide_eq_true (by first | (with_reducible assumption) | assumption)
                obtain ⟨ad205, e205, hx205_0, hx205_1, hx205_2, hx205_3, hx205_4, hx205_5⟩ := at_T26 (Kd.R_reads' HO_15.out).2.2 x17_1 p205 q205
                cases e205
                replace p205 := eq_true p205
                replace q205 := eq_true q205
                go_wp2_with (first | ((with_reducible refine gate_dst (N := 3) rfl ?_); refine box_event ?hg (N := 3) ?hd (cs := #[.int .i64 0, .int .i64 0, .int .i64 0, .int .i64 0, .string (⟨#[]⟩ : ByteArray), .string (⟨#[]⟩ : ByteArray)]) (t := 26) ?hr ?_; (case hd => rfl); (case hg => rfl); (case hr => first | (go_simp; done) | (go_simp; rfl)); intro gb206 hg w12 hbox hb; have n0_ := Aside0.mk (Kd.R_below (Kd.R_elderB (by (with_reducible repeat (first | apply Kd.R_alloc | apply Kd.R_drewN | apply Kd.R_drew)); exact HO_15.out) gb206 (Nat.le_of_eq hg.symm)) hb); have n1_ := Aside0.mk (below_step (by repeat (first | (with_reducible first | exact HB.out | apply below_alloc | apply pw_below_drewN | apply below_drew1) | exact HB.out)) hb); have n2_ := Aside0.mk (hbox); have n3_ := Aside0.mk ((by rw [hg]; exact (below_size (by repeat (first | (with_reducible first | exact HB.out | apply below_alloc | apply pw_below_drewN | apply below_drew1) | exact HB.out))) : w.heap.size ≤ gb206)); have n4_ := Aside0.mk ((by rw [hg]; exact (below_size (by repeat (first | (with_reducible first | exact HB.out | apply below_alloc | apply pw_below_drewN | apply below_drew1) | exact HB.out))) : w.heap.size ≤ gb206)); clear HO_15; clear HB; have HO_15 := n0_; have HB := n1_; have BK206 := n2_; have GW206 := n3_; have GE206 := n4_; clear n0_ n1_ n2_ n3_ n4_; clear hb hbox hg; have hcz13_0 : w12.cell? ⟨gb206, 0, none⟩ = some (.int .i64 0) := (blk_cell BK206.out 0).trans rfl; have hcz13_1 : w12.cell? ⟨gb206, 1, none⟩ = some (.int .i64 0) := (blk_cell BK206.out 1).trans rfl; have hcz13_2 : w12.cell? ⟨gb206, 2, none⟩ = some (.int .i64 0) := (blk_cell BK206.out 2).trans rfl; have hcz13_3 : w12.cell? ⟨gb206, 3, none⟩ = some (.int .i64 0) := (blk_cell BK206.out 3).trans rfl; have hcz13_4 : w12.cell? ⟨gb206, 4, none⟩ = some (.string (⟨#[]⟩ : ByteArray)) := (blk_cell BK206.out 4).trans rfl; have hcz13_5 : w12.cell? ⟨gb206, 5, none⟩ = some (.string (⟨#[]⟩ : ByteArray)) := (blk_cell BK206.out 5).trans rfl; have hfz13_0 := blk_frozen BK206.out 0; have hfz13_1 := blk_frozen BK206.out 1; have hfz13_2 := blk_frozen BK206.out 2; have hfz13_3 := blk_frozen BK206.out 3; have hfz13_4 := blk_frozen BK206.out 4; have hfz13_5 := blk_frozen BK206.out 5) | ((with_reducible refine gate_callee (f := 11) rfl ?_); refine goesL_ (some 22) rfl rfl Tryd.func11 (by kernel_rfl) rfl #[.agg #[.int .i64 ((rd_T26 y202 x17_1).f0.f0), .int .i64 ((rd_T26 y202 x17_1).f0.f1), .int .i64 ((rd_T26 y202 x17_1).f0.f2), .int .i64 ((rd_T26 y202 x17_1).f0.f3), .string ((rd_T26 y202 x17_1).f1), .string ((rd_T26 y202 x17_1).f2)]] rfl (by (try simp only [List.map_toArray, List.map_cons, List.map_nil]); first | done | rfl | (simp only [List.length_drop, List.length_take]; rfl)) ?_; (with_reducible refine (weld_Valid.calls k1 ((rd_T26 y202 x17_1).f0.f0) ((rd_T26 y202 x17_1).f0.f1) ((rd_T26 y202 x17_1).f0.f2) ((rd_T26 y202 x17_1).f0.f3) ((rd_T26 y202 x17_1).f1) ((rd_T26 y202 x17_1).f2) false _ ?side1 A10.out).mono ?_); (case side1 => first | (with_reducible exact HG.out) | exact Glob.Globs_below HG.out (by repeat (first | (with_reducible first | exact HB.out | apply below_alloc | apply pw_below_drewN | apply below_drew1 | refine below_set ?_ GE206.out) | exact HB.out))); rintro e w14 ⟨rfl, hb⟩; refine ⟨_, rfl, ?_⟩; have n0_ := Aside0.mk (Kd.R_below (by (with_reducible repeat (first | apply Kd.R_alloc | apply Kd.R_drewN | apply Kd.R_drew)); exact (Kd.R_mono (Kd.R_far (p := ⟨gb206, 5, none⟩) (Kd.R_far (p := ⟨gb206, 4, none⟩) (Kd.R_far (p := ⟨gb206, 3, none⟩) (Kd.R_far (p := ⟨gb206, 2, none⟩) (Kd.R_far (p := ⟨gb206, 1, none⟩) (Kd.R_far (p := ⟨gb206, 0, none⟩) (Kd.R_mono HO_15.out (fun k_ hk => (⟨hk, hk.2⟩ : _ ∧ k_ ≠ gb206))) (fun _ hk => hk.2) (.int .i64 ((rd_T26 y202 x17_1).f0.f0))) (fun _ hk => hk.2) (.int .i64 ((rd_T26 y202 x17_1).f0.f1))) (fun _ hk => hk.2) (.int .i64 ((rd_T26 y202 x17_1).f0.f2))) (fun _ hk => hk.2) (.int .i64 ((rd_T26 y202 x17_1).f0.f3))) (fun _ hk => hk.2) (.string ((rd_T26 y202 x17_1).f1))) (fun _ hk => hk.2) (.string ((rd_T26 y202 x17_1).f2))) (fun _ h_ => h_.1))) hb); have n1_ := Aside0.mk (blk_below (g := gb206) (o := .cells #[.int .i64 ((rd_T26 y202 x17_1).f0.f0), .int .i64 ((rd_T26 y202 x17_1).f0.f1), .int .i64 ((rd_T26 y202 x17_1).f0.f2), .int .i64 ((rd_T26 y202 x17_1).f0.f3), .string ((rd_T26 y202 x17_1).f1), .string ((rd_T26 y202 x17_1).f2)] 26 (0, 0)) (by (with_reducible repeat (first | refine blk_drewN ?_ _ | refine blk_drew ?_ | refine blk_alloc ?_ _)); refine blk_put (cs := #[.int .i64 ((rd_T26 y202 x17_1).f0.f0), .int .i64 ((rd_T26 y202 x17_1).f0.f1), .int .i64 ((rd_T26 y202 x17_1).f0.f2), .int .i64 ((rd_T26 y202 x17_1).f0.f3), .string ((rd_T26 y202 x17_1).f1), .string (⟨#[]⟩ : ByteArray)]) ?_ 5 _ rfl; (with_reducible repeat (first | refine blk_drewN ?_ _ | refine blk_drew ?_ | refine blk_alloc ?_ _)); refine blk_put (cs := #[.int .i64 ((rd_T26 y202 x17_1).f0.f0), .int .i64 ((rd_T26 y202 x17_1).f0.f1), .int .i64 ((rd_T26 y202 x17_1).f0.f2), .int .i64 ((rd_T26 y202 x17_1).f0.f3), .string (⟨#[]⟩ : ByteArray), .string (⟨#[]⟩ : ByteArray)]) ?_ 4 _ rfl; (with_reducible repeat (first | refine blk_drewN ?_ _ | refine blk_drew ?_ | refine blk_alloc ?_ _)); refine blk_put (cs := #[.int .i64 ((rd_T26 y202 x17_1).f0.f0), .int .i64 ((rd_T26 y202 x17_1).f0.f1), .int .i64 ((rd_T26 y202 x17_1).f0.f2), .int .i64 0, .string (⟨#[]⟩ : ByteArray), .string (⟨#[]⟩ : ByteArray)]) ?_ 3 _ rfl; (with_reducible repeat (first | refine blk_drewN ?_ _ | refine blk_drew ?_ | refine blk_alloc ?_ _)); refine blk_put (cs := #[.int .i64 ((rd_T26 y202 x17_1).f0.f0), .int .i64 ((rd_T26 y202 x17_1).f0.f1), .int .i64 0, .int .i64 0, .string (⟨#[]⟩ : ByteArray), .string (⟨#[]⟩ : ByteArray)]) ?_ 2 _ rfl; (with_reducible repeat (first | refine blk_drewN ?_ _ | refine blk_drew ?_ | refine blk_alloc ?_ _)); refine blk_put (cs := #[.int .i64 ((rd_T26 y202 x17_1).f0.f0), .int .i64 0, .int .i64 0, .int .i64 0, .string (⟨#[]⟩ : ByteArray), .string (⟨#[]⟩ : ByteArray)]) ?_ 1 _ rfl; (with_reducible repeat (first | refine blk_drewN ?_ _ | refine blk_drew ?_ | refine blk_alloc ?_ _)); refine blk_put (cs := #[.int .i64 0, .int .i64 0, .int .i64 0, .int .i64 0, .string (⟨#[]⟩ : ByteArray), .string (⟨#[]⟩ : ByteArray)]) ?_ 0 _ rfl; (with_reducible repeat (first | refine blk_drewN ?_ _ | refine blk_drew ?_ | refine blk_alloc ?_ _)); exact BK206.out) hb); have n2_ := Aside0.mk (below_step (by repeat (first | (with_reducible first | exact HB.out | apply below_alloc | apply pw_below_drewN | apply below_drew1 | refine below_set ?_ GE206.out) | exact HB.out)) hb); clear HO_15; clear BK206; clear HB; have HO_15 := n0_; have BK206 := n1_; have HB := n2_; clear n0_ n1_ n2_; (try clear hb); (try clear hb2); (try clear hk); (try clear hi)))
                go_roundg k1
                case measure => have := HK1.out; omega
                case rel => exact ⟨(wrap64 (x17_1 + 1)), (by first | rfl | (simp; done) | (simp [*]; done)), H', ⟨by have := HK1.out; omega⟩, ⟨by (with_reducible repeat (first | apply Kd.R_alloc | apply Kd.R_drewN | apply Kd.R_drew)); exact Kd.R_mono HO_15.out (fun _ hk => trivial)⟩, ⟨by repeat (first | (with_reducible first | exact HB.out | apply below_alloc | apply pw_below_drewN | apply below_drew1 | refine below_set ?_ GE206.out) | exact HB.out)⟩⟩
            · rw [if_neg c9] at H
              exact absurd H (by simp)
          · rw [if_neg c8] at H
            exact absurd H (by simp)
        · rw [if_neg c7] at H
          have c7b0 : decide (x17_1 < (y202.length : Int)) = false := decide_eq_false c7
          clear c7
          replace H := Option.bind_eq_some_iff.mp H
          obtain ⟨t208, A150, H⟩ := H
          replace H : (if t208 = true then ((weld_Valid.f k1 0 0 0 0 (⟨#[]⟩ : ByteArray) (⟨#[]⟩ : ByteArray)).bind fun t209 => (some t209)) else (none)) = some r := H
          have A15 := Aside0.mk A150
          clear A150
          by_cases c16 : t208 = true
          · subst c16
            have H1 : ((weld_Valid.f k1 0 0 0 0 (⟨#[]⟩ : ByteArray) (⟨#[]⟩ : ByteArray)).bind fun t209 => (some t209)) = some r := by rw [if_pos rfl] at H; exact H
            clear H
            have H := H1
            clear H1
            replace H := Option.bind_eq_some_iff.mp H
            obtain ⟨t209, A170, H⟩ := H
            replace H : (some t209) = some r := H
            have A17 := Aside0.mk A170
            clear A170
            obtain rfl := Option.some.inj H
            go_wp2_with (first | ((with_reducible refine gate_callee (f := 11) rfl ?_); refine goesL_ (some 26) rfl rfl Tryd.func11 (by kernel_rfl) rfl #[.agg #[.int .i64 8, .int .i64 2, .int .i64 4, .int .i64 0, .string (⟨#[240, 159, 152]⟩ : ByteArray), .string (⟨#[159, 152, 128]⟩ : ByteArray)]] rfl (by (try simp only [List.map_toArray, List.map_cons, List.map_nil]); first | done | rfl | (simp only [List.length_drop, List.length_take]; rfl)) ?_; (with_reducible refine (weld_Valid.calls k1 8 2 4 0 (⟨#[240, 159, 152]⟩ : ByteArray) (⟨#[159, 152, 128]⟩ : ByteArray) true _ ?side1 A15.out).mono ?_); (case side1 => first | (with_reducible exact HG.out) | exact Glob.Globs_below HG.out (by repeat (first | (with_reducible first | exact HB.out | apply below_alloc | apply pw_below_drewN | apply below_drew1) | exact HB.out))); rintro e w18 ⟨rfl, hb⟩; refine ⟨_, rfl, ?_⟩; have n0_ := Aside0.mk (Kd.R_below (by (with_reducible repeat (first | apply Kd.R_alloc | apply Kd.R_drewN | apply Kd.R_drew)); exact HO_15.out) hb); have n1_ := Aside0.mk (below_step (by repeat (first | (with_reducible first | exact HB.out | apply below_alloc | apply pw_below_drewN | apply below_drew1) | exact HB.out)) hb); clear HO_15; clear HB; have HO_15 := n0_; have HB := n1_; clear n0_ n1_; (try clear hb); (try clear hb2); (try clear hk); (try clear hi)) | (go_at_call 11; (with_reducible refine (weld_Valid.calls k1 0 0 0 0 (⟨#[]⟩ : ByteArray) (⟨#[]⟩ : ByteArray) t209 _ ?side1 A17.out).mono ?_); (case side1 => first | (with_reducible exact HG.out) | exact Glob.Globs_below HG.out (by repeat (first | (with_reducible first | exact HB.out | apply below_alloc | apply pw_below_drewN | apply below_drew1) | exact HB.out))); rintro e w19 ⟨rfl, hb⟩; have n0_ := Aside0.mk (Kd.R_below (by (with_reducible repeat (first | apply Kd.R_alloc | apply Kd.R_drewN | apply Kd.R_drew)); exact HO_15.out) hb); have n1_ := Aside0.mk (below_step (by repeat (first | (with_reducible first | exact HB.out | apply below_alloc | apply pw_below_drewN | apply below_drew1) | exact HB.out)) hb); clear HO_15; clear HB; have HO_15 := n0_; have HB := n1_; clear n0_ n1_; (try clear hb); (try clear hb2); (try clear hk); (try clear hi)))
            go_ret
            exact ⟨by first | rfl | (simp [errW_none, errW_some] <;> rfl) | (simp [*, errW_none, errW_some] <;> rfl), by repeat (first | (with_reducible first | exact HB.out | apply below_alloc | apply pw_below_drewN | apply below_drew1) | exact HB.out)⟩
          · replace c16 := Bool.eq_false_iff.mpr c16
            subst c16
            have H1 : (none) = some r := by rw [if_neg (show ¬ (false = true) by decide)] at H; exact H
            clear H
            have H := H1
            clear H1
            exact absurd H (by simp)
  · replace c2 := Bool.eq_false_iff.mpr c2
    subst c2
    have H1 : (none) = some r := by rw [if_neg (show ¬ (false = true) by decide)] at H; exact H
    clear H
    have H := H1
    clear H1
    exact absurd H (by simp)

/-- THE ONE PURE STATEMENT of galleylaw05_WeldNames: yours. -/
def galleylaw05_WeldNames.Pure : Prop := ∃ k, galleylaw05_WeldNames.f k  = some true
theorem galleylaw05_WeldNames.walk (P : galleylaw05_WeldNames.Pure)  (w : World) (hG : Glob.Globs w)  :
    Calls Tryd.prog 3 #[] w fun e w' => e = .returned (.bool true) ∧ Below w.heap.size w w' := by
  obtain ⟨k, h⟩ := P  
  refine (galleylaw05_WeldNames.calls k  true w hG h).mono ?_
  rintro e w' ⟨rfl, hd⟩
  exact ⟨rfl, hd⟩

end Go.Proofs.YtaojbcplmdjfnaaDoor.Pr
