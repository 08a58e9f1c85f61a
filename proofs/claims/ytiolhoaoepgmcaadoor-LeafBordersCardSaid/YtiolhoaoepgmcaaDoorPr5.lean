-- Laid by wip/drive/drive.py of this proof's repo (a driver over the kit's print): not typed by hand, not trusted: Lean checks it.
import Derived.Test.YtiolhoaoepgmcaaDoorPr0
import Derived.Test.YtiolhoaoepgmcaaDoorPr4
namespace Go.Proofs.YtiolhoaoepgmcaaDoor.Pr
open Go.RowKit Go.Proofs.YtiolhoaoepgmcaaDoorW.PrintWords Go.Proofs.YtiolhoaoepgmcaaDoorW.PrintLast Go.Proofs.YtiolhoaoepgmcaaDoorW.PrintMore
attribute [local go_sem] max2_int min2_int max_two min_two max_three min_three max_four min_four   -- for this text's walks alone
set_option linter.unusedVariables false
set_option linter.unusedSimpArgs false

/-! ### galleyref02_Inside: function 24 -/
def galleyref02_Inside.l0 : Nat → List Int → Int → Int → Option (Bool)
  | 0, _, _, _ => none
  | k + 1, x0, x1, x5 => if x5 ≤ 3 then (if (wrap64 (x1 - x5)) ≥ 0 then ((galleyref02_Long.f k x0 (wrap64 (x1 - x5))).bind fun t180 => (if t180 > x5 then (some true) else (galleyref02_Inside.l0 k x0 x1 (wrap64 (x5 + 1))))) else (galleyref02_Inside.l0 k x0 x1 (wrap64 (x5 + 1)))) else (some false)
def galleyref02_Inside.f (k : Nat) (l0 : List Int) (a1 : Int) : Option (Bool) := galleyref02_Inside.l0 k l0 a1 1
theorem galleyref02_Inside.mono_l : ∀ k, (∀ y0 y1 y2, LeO (galleyref02_Inside.l0 k y0 y1 y2) (galleyref02_Inside.l0 (k + 1) y0 y1 y2))
  | 0 => fun _ _ _ r h => by simp [galleyref02_Inside.l0] at h
  | k + 1 => by
    have ih0 := galleyref02_Inside.mono_l k
    · intro y0 y1 y2
      unfold galleyref02_Inside.l0
      repeat' first
      | (with_reducible exact ih0 _ _ _)
      | (with_reducible exact galleyref02_Long.mono _ _ _)
      | (with_reducible exact LeO.refl _)
      | (with_reducible exact LeO.none _)
      | (with_reducible refine LeO.ite ?_ ?_)
      | (with_reducible refine LeO.bind ?_ (fun _ => ?_))
      | exact ih0 _ _ _
      | exact galleyref02_Long.mono _ _ _
      | exact LeO.none _
      | refine LeO.ite ?_ ?_
      | refine LeO.bind ?_ (fun _ => ?_)
theorem galleyref02_Inside.mono : ∀ a0 a1 k, LeO (galleyref02_Inside.f k a0 a1) (galleyref02_Inside.f (k + 1) a0 a1) := by
  intro a0 a1 k
  have ih0 := galleyref02_Inside.mono_l k
  unfold galleyref02_Inside.f
  repeat' first
      | (with_reducible exact ih0 _ _ _)
      | (with_reducible exact galleyref02_Long.mono _ _ _)
      | (with_reducible exact LeO.refl _)
      | (with_reducible exact LeO.none _)
      | (with_reducible refine LeO.ite ?_ ?_)
      | (with_reducible refine LeO.bind ?_ (fun _ => ?_))
      | exact ih0 _ _ _
      | exact galleyref02_Long.mono _ _ _
      | exact LeO.none _
      | refine LeO.ite ?_ ?_
      | refine LeO.bind ?_ (fun _ => ?_)
set_option maxHeartbeats 8000000 in
set_option maxRecDepth 100000 in
theorem galleyref02_Inside.calls (k : Nat) (A0 : Option Addr) (c0 : Nat) (l0 : List Int) (a1 : Int) (r : Bool) (w : World) (hr0 : Kd.C (Kd.int .u8) w A0 l0.length l0) (hc0 : l0.length ≤ c0) (h : galleyref02_Inside.f k l0 a1 = some r) :
    Calls Tryd.prog 24 #[.slice A0 l0.length c0, .int .i64 a1] w fun e w' => e = .returned (.bool r) ∧ Drawn0 w w' := by
  have HR0 := Aside0.mk hr0
  have HC0 := Aside0.mk hc0
  clear hr0 hc0
  have H : (galleyref02_Inside.l0 k l0 a1 1) = some r := h
  clear h
  have H' := Aside0.mk H
  clear H
  go_enter Tryd.func24, Tryd.ntmps24
  go_wp2
  go_loopg [5] k (fun kq v5 w' => ∃ (x5_1 : Int), v5 = .int .i64 x5_1 ∧ Aside0 (galleyref02_Inside.l0 kq l0 a1 x5_1 = some r) ∧ Aside0 (kq ≤ k) ∧ Drawn0 w w')
  case atStart => exact ⟨(1), (by first | rfl | (simp; done) | (simp [*]; done)), H', ⟨Nat.le_refl _⟩, by repeat (first | exact Drawn0.refl _ | apply Drawn0.step)⟩
  case round =>
    clear H'
    try clear c2
    try clear p2
    obtain ⟨x5_1, rfl, HA, HK1, ⟨m1, rfl⟩⟩ := hrel
    cases gk with
    | zero => exact absurd HA.out (by simp [galleyref02_Inside.l0])
    | succ k1 =>
      have H := HA.out
      clear HA
      simp only [galleyref02_Inside.l0] at H
      by_cases c3 : x5_1 ≤ 3
      · rw [if_pos c3] at H
        have c3b0 : decide (x5_1 ≤ 3) = true := decide_eq_true c3
        clear c3
        by_cases c4 : (wrap64 (a1 - x5_1)) ≥ 0
        · rw [if_pos c4] at H
          have c4b0 : decide (0 ≤ (wrap64 (a1 - x5_1))) = true := decide_eq_true c4
          clear c4
          replace H := Option.bind_eq_some_iff.mp H
          obtain ⟨t180, A50, H⟩ := H
          replace H : (if t180 > x5_1 then (some true) else (galleyref02_Inside.l0 k1 l0 a1 (wrap64 (x5_1 + 1)))) = some r := H
          have A5 := Aside0.mk A50
          clear A50
          by_cases c6 : t180 > x5_1
          · rw [if_pos c6] at H
            have c6b0 : decide (x5_1 < t180) = true := decide_eq_true c6
            clear c6
            obtain rfl := Option.some.inj H
            go_wp2_with (first | (go_at_call 31; (with_reducible refine (galleyref02_Long.calls k1 _ _ l0 (wrap64 (a1 - x5_1)) t180 _ ?side1 ?side2 A5.out).mono ?_); (case side1 => repeat (first | exact HR0.out | (with_reducible refine Kd.C_alloc ?_ _) | (with_reducible refine Kd.C_drewN ?_ _) | (with_reducible refine Kd.C_drew ?_))); (case side2 => exact HC0.out); rintro e w' ⟨rfl, ⟨nd, rfl⟩⟩))
            go_ret
            exact ⟨by first | rfl | (simp; done) | (simp [*]; done), by repeat (first | exact Drawn0.refl _ | apply Drawn0.step)⟩
          · rw [if_neg c6] at H
            have c6b0 : decide (x5_1 < t180) = false := decide_eq_false c6
            clear c6
            have H' := Aside0.mk H
            clear H
            go_wp2_with (first | (go_at_call 31; (with_reducible refine (galleyref02_Long.calls k1 _ _ l0 (wrap64 (a1 - x5_1)) t180 _ ?side1 ?side2 A5.out).mono ?_); (case side1 => repeat (first | exact HR0.out | (with_reducible refine Kd.C_alloc ?_ _) | (with_reducible refine Kd.C_drewN ?_ _) | (with_reducible refine Kd.C_drew ?_))); (case side2 => exact HC0.out); rintro e w' ⟨rfl, ⟨nd, rfl⟩⟩))
            go_roundg k1
            case measure => have := HK1.out; omega
            case rel => exact ⟨(wrap64 (x5_1 + 1)), (by first | rfl | (simp; done) | (simp [*]; done)), H', ⟨by have := HK1.out; omega⟩, by repeat (first | exact Drawn0.refl _ | apply Drawn0.step)⟩
        · rw [if_neg c4] at H
          have c4b0 : decide (0 ≤ (wrap64 (a1 - x5_1))) = false := decide_eq_false c4
          clear c4
          have H' := Aside0.mk H
          clear H
          go_wp2
          go_roundg k1
          case measure => have := HK1.out; omega
          case rel => exact ⟨(wrap64 (x5_1 + 1)), (by first | rfl | (simp; done) | (simp [*]; done)), H', ⟨by have := HK1.out; omega⟩, by repeat (first | exact Drawn0.refl _ | apply Drawn0.step)⟩
      · rw [if_neg c3] at H
        have c3b0 : decide (x5_1 ≤ 3) = false := decide_eq_false c3
        clear c3
        obtain rfl := Option.some.inj H
        go_wp2
        go_ret
        exact ⟨by first | rfl | (simp; done) | (simp [*]; done), by repeat (first | exact Drawn0.refl _ | apply Drawn0.step)⟩

/-! ### galleyref02_Edge: function 11 -/
def galleyref02_Edge.f (k : Nat) (l0 : List Int) (a1 : Int) : Option (Bool) := if a1 ≥ 0 then (if a1 ≤ (l0.length : Int) then ((galleyref02_Inside.f k l0 a1).bind fun t181 => (some (!t181))) else (some false)) else (some false)
theorem galleyref02_Edge.mono : ∀ a0 a1 k, LeO (galleyref02_Edge.f k a0 a1) (galleyref02_Edge.f (k + 1) a0 a1) := by
  intro a0 a1 k
  unfold galleyref02_Edge.f
  repeat' first
      | (with_reducible exact galleyref02_Inside.mono _ _ _)
      | (with_reducible exact LeO.refl _)
      | (with_reducible exact LeO.none _)
      | (with_reducible refine LeO.ite ?_ ?_)
      | (with_reducible refine LeO.bind ?_ (fun _ => ?_))
      | exact galleyref02_Inside.mono _ _ _
      | exact LeO.none _
      | refine LeO.ite ?_ ?_
      | refine LeO.bind ?_ (fun _ => ?_)
set_option maxHeartbeats 8000000 in
set_option maxRecDepth 100000 in
theorem galleyref02_Edge.calls (k : Nat) (A0 : Option Addr) (c0 : Nat) (l0 : List Int) (a1 : Int) (r : Bool) (w : World) (hr0 : Kd.C (Kd.int .u8) w A0 l0.length l0) (hc0 : l0.length ≤ c0) (h : galleyref02_Edge.f k l0 a1 = some r) :
    Calls Tryd.prog 11 #[.slice A0 l0.length c0, .int .i64 a1] w fun e w' => e = .returned (.bool r) ∧ Drawn0 w w' := by
  have HR0 := Aside0.mk hr0
  have HC0 := Aside0.mk hc0
  clear hr0 hc0
  have H : (if a1 ≥ 0 then (if a1 ≤ (l0.length : Int) then ((galleyref02_Inside.f k l0 a1).bind fun t181 => (some (!t181))) else (some false)) else (some false)) = some r := h
  clear h
  by_cases c3 : a1 ≥ 0
  · rw [if_pos c3] at H
    have c3b0 : decide (0 ≤ a1) = true := decide_eq_true c3
    clear c3
    by_cases c4 : a1 ≤ (l0.length : Int)
    · rw [if_pos c4] at H
      have c4b0 : decide (a1 ≤ (l0.length : Int)) = true := decide_eq_true c4
      clear c4
      replace H := Option.bind_eq_some_iff.mp H
      obtain ⟨t181, A50, H⟩ := H
      replace H : (some (!t181)) = some r := H
      have A5 := Aside0.mk A50
      clear A50
      obtain rfl := Option.some.inj H
      go_enter Tryd.func11, Tryd.ntmps11
      go_wp2_with (first | (go_at_call 24; (with_reducible refine (galleyref02_Inside.calls k _ _ l0 a1 t181 _ ?side1 ?side2 A5.out).mono ?_); (case side1 => repeat (first | exact HR0.out | (with_reducible refine Kd.C_alloc ?_ _) | (with_reducible refine Kd.C_drewN ?_ _) | (with_reducible refine Kd.C_drew ?_))); (case side2 => exact HC0.out); rintro e w' ⟨rfl, ⟨nd, rfl⟩⟩))
      go_ret
      exact ⟨by first | rfl | (simp; done) | (simp [*]; done), by repeat (first | exact Drawn0.refl _ | apply Drawn0.step)⟩
    · rw [if_neg c4] at H
      have c4b0 : decide (a1 ≤ (l0.length : Int)) = false := decide_eq_false c4
      clear c4
      obtain rfl := Option.some.inj H
      go_enter Tryd.func11, Tryd.ntmps11
      go_wp2
      go_ret
      exact ⟨by first | rfl | (simp; done) | (simp [*]; done), by repeat (first | exact Drawn0.refl _ | apply Drawn0.step)⟩
  · rw [if_neg c3] at H
    have c3b0 : decide (0 ≤ a1) = false := decide_eq_false c3
    clear c3
    obtain rfl := Option.some.inj H
    go_enter Tryd.func11, Tryd.ntmps11
    go_wp2
    go_ret
    exact ⟨by first | rfl | (simp; done) | (simp [*]; done), by repeat (first | exact Drawn0.refl _ | apply Drawn0.step)⟩

-- NOT PRINTED: function 13 (leaf_Leaf_Weld)

/-! ### galleyref02_Edges: function 32 -/
def galleyref02_Edges.l0 : Nat → List Int → List Int → Int → Option (List Int)
  | 0, _, _, _ => none
  | k + 1, x0, x3, x4 => if x4 ≤ (x0.length : Int) then ((galleyref02_Inside.f k x0 x4).bind fun t183 => (if t183 = true then (galleyref02_Edges.l0 k x0 x3 (wrap64 (x4 + 1))) else (if x3.length < 17592186044416 then (galleyref02_Edges.l0 k x0 (x3 ++ [x4]) (wrap64 (x4 + 1))) else (none)))) else (some x3)
def galleyref02_Edges.f (k : Nat) (l0 : List Int) : Option (List Int) := galleyref02_Edges.l0 k l0 ([] : List Int) 0
theorem galleyref02_Edges.mono_l : ∀ k, (∀ y0 y1 y2, LeO (galleyref02_Edges.l0 k y0 y1 y2) (galleyref02_Edges.l0 (k + 1) y0 y1 y2))
  | 0 => fun _ _ _ r h => by simp [galleyref02_Edges.l0] at h
  | k + 1 => by
    have ih0 := galleyref02_Edges.mono_l k
    · intro y0 y1 y2
      unfold galleyref02_Edges.l0
      repeat' first
      | (with_reducible exact ih0 _ _ _)
      | (with_reducible exact galleyref02_Inside.mono _ _ _)
      | (with_reducible exact LeO.refl _)
      | (with_reducible exact LeO.none _)
      | (with_reducible refine LeO.ite ?_ ?_)
      | (with_reducible refine LeO.bind ?_ (fun _ => ?_))
      | exact ih0 _ _ _
      | exact galleyref02_Inside.mono _ _ _
      | exact LeO.none _
      | refine LeO.ite ?_ ?_
      | refine LeO.bind ?_ (fun _ => ?_)
theorem galleyref02_Edges.mono : ∀ a0 k, LeO (galleyref02_Edges.f k a0) (galleyref02_Edges.f (k + 1) a0) := by
  intro a0 k
  have ih0 := galleyref02_Edges.mono_l k
  unfold galleyref02_Edges.f
  repeat' first
      | (with_reducible exact ih0 _ _ _)
      | (with_reducible exact galleyref02_Inside.mono _ _ _)
      | (with_reducible exact LeO.refl _)
      | (with_reducible exact LeO.none _)
      | (with_reducible refine LeO.ite ?_ ?_)
      | (with_reducible refine LeO.bind ?_ (fun _ => ?_))
      | exact ih0 _ _ _
      | exact galleyref02_Inside.mono _ _ _
      | exact LeO.none _
      | refine LeO.ite ?_ ?_
      | refine LeO.bind ?_ (fun _ => ?_)
set_option maxHeartbeats 8000000 in
set_option maxRecDepth 100000 in
theorem galleyref02_Edges.calls (k : Nat) (A0 : Option Addr) (c0 : Nat) (l0 : List Int) (r : List Int) (w : World) (hr0 : Kd.C (Kd.int .u8) w A0 l0.length l0) (hc0 : l0.length ≤ c0) (h : galleyref02_Edges.f k l0 = some r) :
    Calls Tryd.prog 32 #[.slice A0 l0.length c0] w fun e w' => ∃ v0_ : Value, e = .returned (v0_) ∧ Kd.R (Kd.int .i64) 3 w' w.heap.size (fun _ => True) v0_ r ∧ Below w.heap.size w w' := by
  have HR0 := Aside0.mk hr0
  have HC0 := Aside0.mk hc0
  clear hr0 hc0
  have HB := Aside0.mk (Below.refl w.heap.size w)
  have H : (galleyref02_Edges.l0 k l0 ([] : List Int) 0) = some r := h
  clear h
  have H' := Aside0.mk H
  clear H
  go_enter Tryd.func32, Tryd.ntmps32
  go_wp2
  go_loopg [3, 4] k (fun kq v3 v4 w' => ∃ (x3_1 : List Int) (x4_1 : Int), v4 = .int .i64 x4_1 ∧ Aside0 (galleyref02_Edges.l0 kq l0 x3_1 x4_1 = some r) ∧ Aside0 (kq ≤ k) ∧ Aside0 (Kd.R (Kd.int .i64) 3 w' w.heap.size (fun _ => True) v3 x3_1) ∧ Aside0 (Below w.heap.size w w'))
  case atStart => exact ⟨(([] : List Int)), (0), (by first | rfl | (simp; done) | (simp [*]; done)), H', ⟨Nat.le_refl _⟩, ⟨by first | exact Kd.R_nil _ _ _ _ _ | exact Kd.N_nil _ _ _ _ _ | exact Kd.V_nil _ _ _ _ _ | exact Kd.Q_nil _ _ _ _ _ | exact Kd.S_nil _ _ _ _ _⟩, ⟨by repeat (first | (with_reducible first | exact HB.out | apply below_alloc | apply pw_below_drewN | apply below_drew1) | exact HB.out)⟩⟩
  case round =>
    clear H'
    obtain ⟨x3_1, x4_1, rfl, HA, HK1, HO_3, HB⟩ := hrel
    cases gk with
    | zero => exact absurd HA.out (by simp [galleyref02_Edges.l0])
    | succ k1 =>
      have H := HA.out
      clear HA
      simp only [galleyref02_Edges.l0] at H
      by_cases c2 : x4_1 ≤ (l0.length : Int)
      · rw [if_pos c2] at H
        have c2b0 : decide (x4_1 ≤ (l0.length : Int)) = true := decide_eq_true c2
        clear c2
        replace H := Option.bind_eq_some_iff.mp H
        obtain ⟨t183, A30, H⟩ := H
        replace H : (if t183 = true then (galleyref02_Edges.l0 k1 l0 x3_1 (wrap64 (x4_1 + 1))) else (if x3_1.length < 17592186044416 then (galleyref02_Edges.l0 k1 l0 (x3_1 ++ [x4_1]) (wrap64 (x4_1 + 1))) else (none))) = some r := H
        have A3 := Aside0.mk A30
        clear A30
        by_cases c4 : t183 = true
        · subst c4
          have H1 : (galleyref02_Edges.l0 k1 l0 x3_1 (wrap64 (x4_1 + 1))) = some r := by rw [if_pos rfl] at H; exact H
          clear H
          have H := H1
          clear H1
          have H' := Aside0.mk H
          clear H
          go_wp2_with (first | ((with_reducible refine gate_callee (f := 24) rfl ?_); refine goesL_ (some 13) rfl rfl Tryd.func24 (by kernel_rfl) rfl #[.slice A0 l0.length c0, .int .i64 x4_1] rfl (by (try simp only [List.map_toArray, List.map_cons, List.map_nil]); first | done | rfl | (simp only [List.length_drop, List.length_take]; rfl)) ?_; (with_reducible refine (galleyref02_Inside.calls k1 _ _ l0 x4_1 true _ ?side1 ?side2 A3.out).mono ?_); (case side1 => repeat (first | exact (Kd.C_below HR0.out HB.out) | (with_reducible refine Kd.C_alloc ?_ _) | (with_reducible refine Kd.C_drewN ?_ _) | (with_reducible refine Kd.C_drew ?_))); (case side2 => exact HC0.out); rintro e w' ⟨rfl, ⟨nd, rfl⟩⟩; refine ⟨_, rfl, ?_⟩))
          go_roundg k1
          case measure => have := HK1.out; omega
          case rel => exact ⟨(x3_1), (wrap64 (x4_1 + 1)), (by first | rfl | (simp; done) | (simp [*]; done)), H', ⟨by have := HK1.out; omega⟩, ⟨by (with_reducible repeat (first | apply Kd.R_alloc | apply Kd.R_drewN | apply Kd.R_drew)); exact HO_3.out⟩, ⟨by repeat (first | (with_reducible first | exact HB.out | apply below_alloc | apply pw_below_drewN | apply below_drew1) | exact HB.out)⟩⟩
        · replace c4 := Bool.eq_false_iff.mpr c4
          subst c4
          have H1 : (if x3_1.length < 17592186044416 then (galleyref02_Edges.l0 k1 l0 (x3_1 ++ [x4_1]) (wrap64 (x4_1 + 1))) else (none)) = some r := by rw [if_neg (show ¬ (false = true) by decide)] at H; exact H
          clear H
          have H := H1
          clear H1
          by_cases c5 : x3_1.length < 17592186044416
          · rw [if_pos c5] at H
            have LMc5 := Aside0.mk c5
            clear c5
            obtain ⟨y184, hy184⟩ : ∃ y_ : List Int, y_ = (x3_1 ++ [x4_1]) := ⟨_, rfl⟩
            replace H : (galleyref02_Edges.l0 k1 l0 y184 (wrap64 (x4_1 + 1))) = some r := by first | (rw [hy184]; with_reducible exact H) | (have H2_ := (Option.bind_some _ _).symm.trans H; rw [hy184]; with_reducible exact H2_) | (have H2_ := (Option.bind_some _ _).symm.trans H; with_reducible exact H2_) | with_reducible exact H | (rw [hy184]; exact H) | exact H
            have Ny184 := Aside0.mk hy184
            clear hy184
            have H' := Aside0.mk H
            clear H
            go_wp2_with (first | ((with_reducible refine gate_callee (f := 24) rfl ?_); refine goesL_ (some 13) rfl rfl Tryd.func24 (by kernel_rfl) rfl #[.slice A0 l0.length c0, .int .i64 x4_1] rfl (by (try simp only [List.map_toArray, List.map_cons, List.map_nil]); first | done | rfl | (simp only [List.length_drop, List.length_take]; rfl)) ?_; (with_reducible refine (galleyref02_Inside.calls k1 _ _ l0 x4_1 false _ ?side1 ?side2 A3.out).mono ?_); (case side1 => repeat (first | exact (Kd.C_below HR0.out HB.out) | (with_reducible refine Kd.C_alloc ?_ _) | (with_reducible refine Kd.C_drewN ?_ _) | (with_reducible refine Kd.C_drew ?_))); (case side2 => exact HC0.out); rintro e w' ⟨rfl, ⟨nd, rfl⟩⟩; refine ⟨_, rfl, ?_⟩) | ((with_reducible refine gate_builtin (b := .append) (xs := #[.tmp 15, .tmp 17]) rfl ?_); at_builtin; refine Kd.R_append (Kd.int .i64) (w0 := w) w.heap.size rfl (.tmp 15) (.tmp 17) 64 3 (.int .i64 0) 8 rfl Tryd.underlying64 info3 rfl (by decide) (by omega) u3 x3_1 x4_1 [.int .i64 x4_1] (fun _ => True) (fun _ => False) rfl rfl ?aP (fun _ hk => hk.elim) ?aF ?aO ?aB ?aS ?aL ?_; (case aP => exact rfl); (case aB => exact (by repeat (first | (with_reducible first | exact HB.out | apply below_alloc | apply pw_below_drewN | apply below_drew1) | exact HB.out))); (case aF => exact (fun _ _ => trivial)); (case aO => exact (by (with_reducible repeat (first | apply Kd.R_alloc | apply Kd.R_drewN | apply Kd.R_drew)); exact HO_3.out)); (case aS => exact (below_size (by repeat (first | (with_reducible first | exact HB.out | apply below_alloc | apply pw_below_drewN | apply below_drew1) | exact HB.out)))); (case aL => have := LMc5.out; omega); intro v185 w6 ho hb hg hat; rw [← Ny184.out] at ho; have n0_ := Aside0.mk (hb); have n1_ := Aside0.mk (ho); clear HB; clear HO_3; have HB := n0_; have HO186 := n1_; clear n0_ n1_; clear ho hb hg hat))
            go_roundg k1
            case measure => have := HK1.out; omega
            case rel => exact ⟨(y184), (wrap64 (x4_1 + 1)), (by first | rfl | (simp; done) | (simp [*]; done)), H', ⟨by have := HK1.out; omega⟩, ⟨by (with_reducible repeat (first | apply Kd.R_alloc | apply Kd.R_drewN | apply Kd.R_drew)); exact HO186.out⟩, ⟨by repeat (first | (with_reducible first | exact HB.out | apply below_alloc | apply pw_below_drewN | apply below_drew1) | exact HB.out)⟩⟩
          · rw [if_neg c5] at H
            exact absurd H (by simp)
      · rw [if_neg c2] at H
        have c2b0 : decide (x4_1 ≤ (l0.length : Int)) = false := decide_eq_false c2
        clear c2
        obtain rfl := Option.some.inj H
        go_wp2
        go_ret
        exact ⟨_, by first | rfl | (simp [errW_none, errW_some] <;> rfl) | (simp [*, errW_none, errW_some] <;> rfl), by (with_reducible repeat (first | apply Kd.R_alloc | apply Kd.R_drewN | apply Kd.R_drew)); exact HO_3.out, by repeat (first | (with_reducible first | exact HB.out | apply below_alloc | apply pw_below_drewN | apply below_drew1) | exact HB.out)⟩

/-! ### galleyref02_Of: function 33 -/
mutual
def galleyref02_Of.j0 : Nat → List Int → Int → Int → Int → Option (Int × Int × Bool)
  | 0, _, _, _, _ => none
  | k + 1, x0, x1, x5, x6 => galleyref02_Of.l0 k x0 x1 x5 x6 1
def galleyref02_Of.l0 : Nat → List Int → Int → Int → Int → Int → Option (Int × Int × Bool)
  | 0, _, _, _, _, _ => none
  | k + 1, x0, x1, x5, x6, x7 => if x7 < x5 then (if 0 ≤ (wrap64 (x1 + x7)) then (if (wrap64 (x1 + x7)) < (x0.length : Int) then (galleyref02_Of.l0 k x0 x1 x5 (wrap64 ((wrap64 (x6 * 64)) + (Int.tmod (wrap64 (rd x0 (wrap64 (x1 + x7)))) 64))) (wrap64 (x7 + 1))) else (none)) else (none)) else (some (wrap32 (x6), x5, true))
end
def galleyref02_Of.f (k : Nat) (l0 : List Int) (a1 : Int) : Option (Int × Int × Bool) := (galleyref02_Long.f k l0 a1).bind fun t188 => (if t188 = 0 then (some (65533, 1, false)) else (if 0 ≤ a1 then (if a1 < (l0.length : Int) then (if t188 = 2 then (galleyref02_Of.j0 k l0 a1 t188 (Int.tmod (wrap64 (rd l0 a1)) 32)) else (if t188 = 3 then (galleyref02_Of.j0 k l0 a1 t188 (Int.tmod (wrap64 (rd l0 a1)) 16)) else (if t188 = 4 then (galleyref02_Of.j0 k l0 a1 t188 (Int.tmod (wrap64 (rd l0 a1)) 8)) else (galleyref02_Of.j0 k l0 a1 t188 (wrap64 (rd l0 a1)))))) else (none)) else (none)))
theorem galleyref02_Of.mono_l : ∀ k, (∀ y0 y1 y2 y3, LeO (galleyref02_Of.j0 k y0 y1 y2 y3) (galleyref02_Of.j0 (k + 1) y0 y1 y2 y3)) ∧ (∀ y0 y1 y2 y3 y4, LeO (galleyref02_Of.l0 k y0 y1 y2 y3 y4) (galleyref02_Of.l0 (k + 1) y0 y1 y2 y3 y4))
  | 0 => ⟨fun _ _ _ _ r h => by simp [galleyref02_Of.j0] at h, fun _ _ _ _ _ r h => by simp [galleyref02_Of.l0] at h⟩
  | k + 1 => by
    obtain ⟨ih0, ih1⟩ := galleyref02_Of.mono_l k
    refine ⟨?_, ?_⟩
    · intro y0 y1 y2 y3
      unfold galleyref02_Of.j0
      repeat' first
      | (with_reducible exact ih0 _ _ _ _)
      | (with_reducible exact ih1 _ _ _ _ _)
      | (with_reducible exact galleyref02_Long.mono _ _ _)
      | (with_reducible exact LeO.refl _)
      | (with_reducible exact LeO.none _)
      | (with_reducible refine LeO.ite ?_ ?_)
      | (with_reducible refine LeO.bind ?_ (fun _ => ?_))
      | exact ih0 _ _ _ _
      | exact ih1 _ _ _ _ _
      | exact galleyref02_Long.mono _ _ _
      | exact LeO.none _
      | refine LeO.ite ?_ ?_
      | refine LeO.bind ?_ (fun _ => ?_)
    · intro y0 y1 y2 y3 y4
      unfold galleyref02_Of.l0
      repeat' first
      | (with_reducible exact ih0 _ _ _ _)
      | (with_reducible exact ih1 _ _ _ _ _)
      | (with_reducible exact galleyref02_Long.mono _ _ _)
      | (with_reducible exact LeO.refl _)
      | (with_reducible exact LeO.none _)
      | (with_reducible refine LeO.ite ?_ ?_)
      | (with_reducible refine LeO.bind ?_ (fun _ => ?_))
      | exact ih0 _ _ _ _
      | exact ih1 _ _ _ _ _
      | exact galleyref02_Long.mono _ _ _
      | exact LeO.none _
      | refine LeO.ite ?_ ?_
      | refine LeO.bind ?_ (fun _ => ?_)
theorem galleyref02_Of.mono : ∀ a0 a1 k, LeO (galleyref02_Of.f k a0 a1) (galleyref02_Of.f (k + 1) a0 a1) := by
  intro a0 a1 k
  obtain ⟨ih0, ih1⟩ := galleyref02_Of.mono_l k
  unfold galleyref02_Of.f
  repeat' first
      | (with_reducible exact ih0 _ _ _ _)
      | (with_reducible exact ih1 _ _ _ _ _)
      | (with_reducible exact galleyref02_Long.mono _ _ _)
      | (with_reducible exact LeO.refl _)
      | (with_reducible exact LeO.none _)
      | (with_reducible refine LeO.ite ?_ ?_)
      | (with_reducible refine LeO.bind ?_ (fun _ => ?_))
      | exact ih0 _ _ _ _
      | exact ih1 _ _ _ _ _
      | exact galleyref02_Long.mono _ _ _
      | exact LeO.none _
      | refine LeO.ite ?_ ?_
      | refine LeO.bind ?_ (fun _ => ?_)
set_option maxHeartbeats 8000000 in
set_option maxRecDepth 100000 in
theorem galleyref02_Of.calls (k : Nat) (A0 : Option Addr) (c0 : Nat) (l0 : List Int) (a1 : Int) (r1 : Int) (r2 : Int) (r3 : Bool) (w : World) (hr0 : Kd.C (Kd.int .u8) w A0 l0.length l0) (hc0 : l0.length ≤ c0) (h : galleyref02_Of.f k l0 a1 = some (r1, r2, r3)) :
    Calls Tryd.prog 33 #[.slice A0 l0.length c0, .int .i64 a1] w fun e w' => e = .returned (.agg #[.int .i32 r1, .int .i64 r2, .bool r3]) ∧ Below w.heap.size w w' := by
  have hu61 := Tryd.underlying61
  have HR0 := Aside0.mk hr0
  have HC0 := Aside0.mk hc0
  clear hr0 hc0
  have HB := Aside0.mk (Below.refl w.heap.size w)
  have H : ((galleyref02_Long.f k l0 a1).bind fun t188 => (if t188 = 0 then (some (65533, 1, false)) else (if 0 ≤ a1 then (if a1 < (l0.length : Int) then (if t188 = 2 then (galleyref02_Of.j0 k l0 a1 t188 (Int.tmod (wrap64 (rd l0 a1)) 32)) else (if t188 = 3 then (galleyref02_Of.j0 k l0 a1 t188 (Int.tmod (wrap64 (rd l0 a1)) 16)) else (if t188 = 4 then (galleyref02_Of.j0 k l0 a1 t188 (Int.tmod (wrap64 (rd l0 a1)) 8)) else (galleyref02_Of.j0 k l0 a1 t188 (wrap64 (rd l0 a1)))))) else (none)) else (none)))) = some (r1, r2, r3) := h
  clear h
  replace H := Option.bind_eq_some_iff.mp H
  obtain ⟨t188, A30, H⟩ := H
  replace H : (if t188 = 0 then (some (65533, 1, false)) else (if 0 ≤ a1 then (if a1 < (l0.length : Int) then (if t188 = 2 then (galleyref02_Of.j0 k l0 a1 t188 (Int.tmod (wrap64 (rd l0 a1)) 32)) else (if t188 = 3 then (galleyref02_Of.j0 k l0 a1 t188 (Int.tmod (wrap64 (rd l0 a1)) 16)) else (if t188 = 4 then (galleyref02_Of.j0 k l0 a1 t188 (Int.tmod (wrap64 (rd l0 a1)) 8)) else (galleyref02_Of.j0 k l0 a1 t188 (wrap64 (rd l0 a1)))))) else (none)) else (none))) = some (r1, r2, r3) := H
  have A3 := Aside0.mk A30
  clear A30
  by_cases c4 : t188 = 0
  · rw [if_pos c4] at H
    have c4b0 : (t188 == 0) = true := beq_iff_eq.mpr c4
    have c4b1 : (t188 != 0) = false := bne_eq_false_iff_eq.mpr c4
    clear c4
    simp only [Option.some.injEq, Prod.mk.injEq] at H
    obtain ⟨rfl, rfl, rfl⟩ := H
    go_enter Tryd.func33, Tryd.ntmps33
    go_wp2_with (first | ((with_reducible refine gate_dst (N := 4) rfl ?_); refine box_event ?hg (N := 4) ?hd (cs := #[.int .i32 0, .int .i64 0, .bool false]) (t := 61) ?hr ?_; (case hd => rfl); (case hg => rfl); (case hr => first | (go_simp; done) | (go_simp; rfl)); intro gb187 hg w5 hbox hb; have n0_ := Aside0.mk (below_step (by repeat (first | (with_reducible first | exact HB.out | apply below_alloc | apply pw_below_drewN | apply below_drew1) | exact HB.out)) hb); have n1_ := Aside0.mk (hbox); have n2_ := Aside0.mk ((by rw [hg]; exact (below_size (by repeat (first | (with_reducible first | exact HB.out | apply below_alloc | apply pw_below_drewN | apply below_drew1) | exact HB.out))) : w.heap.size ≤ gb187)); have n3_ := Aside0.mk ((by rw [hg]; exact (below_size (by repeat (first | (with_reducible first | exact HB.out | apply below_alloc | apply pw_below_drewN | apply below_drew1) | exact HB.out))) : w.heap.size ≤ gb187)); clear HB; have HB := n0_; have BK187 := n1_; have GW187 := n2_; have GE187 := n3_; clear n0_ n1_ n2_ n3_; clear hb hbox hg) | ((with_reducible refine gate_callee (f := 31) rfl ?_); refine goesL_ (some 10) rfl rfl Tryd.func31 (by kernel_rfl) rfl #[.slice A0 l0.length c0, .int .i64 a1] rfl (by (try simp only [List.map_toArray, List.map_cons, List.map_nil]); first | done | rfl | (simp only [List.length_drop, List.length_take]; rfl)) ?_; (with_reducible refine (galleyref02_Long.calls k _ _ l0 a1 t188 _ ?side1 ?side2 A3.out).mono ?_); (case side1 => repeat (first | exact (Kd.C_below HR0.out HB.out) | (with_reducible refine Kd.C_alloc ?_ _) | (with_reducible refine Kd.C_drewN ?_ _) | (with_reducible refine Kd.C_drew ?_))); (case side2 => exact HC0.out); rintro e w' ⟨rfl, ⟨nd, rfl⟩⟩; refine ⟨_, rfl, ?_⟩; (try (rw [drewN_self w5]; generalize hq_ : World.drewN w5 _ = w5; have n0_ : Aside0 (w5.heap[gb187]? = some (.cells #[.int .i32 0, .int .i64 0, .bool false] 61 (0, 0))) := ⟨by rw [← hq_]; exact (by (with_reducible repeat (first | refine blk_drewN ?_ _ | refine blk_drew ?_ | refine blk_alloc ?_ _)); exact BK187.out)⟩; have n1_ : Aside0 (Below w.heap.size w w5) := ⟨by rw [← hq_]; exact (by repeat (first | (with_reducible first | exact HB.out | apply below_alloc | apply pw_below_drewN | apply below_drew1 | refine below_set ?_ GE187.out) | exact HB.out))⟩; clear BK187 HB hq_; have BK187 := n0_; have HB := n1_; clear n0_ n1_)); have hcz6_0 : w5.cell? ⟨gb187, 0, none⟩ = some (.int .i32 0) := (blk_cell BK187.out 0).trans rfl; have hcz6_1 : w5.cell? ⟨gb187, 1, none⟩ = some (.int .i64 0) := (blk_cell BK187.out 1).trans rfl; have hcz6_2 : w5.cell? ⟨gb187, 2, none⟩ = some (.bool false) := (blk_cell BK187.out 2).trans rfl; have hfz6_0 := blk_frozen BK187.out 0; have hfz6_1 := blk_frozen BK187.out 1; have hfz6_2 := blk_frozen BK187.out 2))
    refine bodyPost_ret (results_cell_row rfl _ _ gb187 61 #[.int .i32 65533, .int .i64 1, .bool false] (0, 0) _ rfl (by (with_reducible repeat (first | refine blk_drewN ?_ _ | refine blk_drew ?_ | refine blk_alloc ?_ _)); refine blk_put (cs := #[.int .i32 65533, .int .i64 1, .bool false]) ?_ 2 _ rfl; (with_reducible repeat (first | refine blk_drewN ?_ _ | refine blk_drew ?_ | refine blk_alloc ?_ _)); refine blk_put (cs := #[.int .i32 65533, .int .i64 0, .bool false]) ?_ 1 _ rfl; (with_reducible repeat (first | refine blk_drewN ?_ _ | refine blk_drew ?_ | refine blk_alloc ?_ _)); refine blk_put (cs := #[.int .i32 0, .int .i64 0, .bool false]) ?_ 0 _ rfl; (with_reducible repeat (first | refine blk_drewN ?_ _ | refine blk_drew ?_ | refine blk_alloc ?_ _)); exact BK187.out) Tryd.underlying61 rfl (by kernel_rfl)) rfl ?_
    exact ⟨by first | rfl | (simp [errW_none, errW_some] <;> rfl) | (simp [*, errW_none, errW_some] <;> rfl), by repeat (first | (with_reducible first | exact HB.out | apply below_alloc | apply pw_below_drewN | apply below_drew1 | refine below_set ?_ GE187.out) | exact HB.out)⟩
  · rw [if_neg c4] at H
    have c4b0 : (t188 == 0) = false := beq_eq_false_iff_ne.mpr c4
    have c4b1 : (t188 != 0) = true := bne_iff_ne.mpr c4
    by_cases c7 : 0 ≤ a1
    · rw [if_pos c7] at H
      have c7b0 : decide (0 ≤ a1) = true := decide_eq_true c7
      clear c7
      by_cases c8 : a1 < (l0.length : Int)
      · rw [if_pos c8] at H
        have c8b0 : decide (a1 < (l0.length : Int)) = true := decide_eq_true c8
        clear c8
        have HC9 := Aside0.mk H
        clear H
        go_enter Tryd.func33, Tryd.ntmps33
        go_upto_block 0 with (first | ((with_reducible refine gate_dst (N := 4) rfl ?_); refine box_event ?hg (N := 4) ?hd (cs := #[.int .i32 0, .int .i64 0, .bool false]) (t := 61) ?hr ?_; (case hd => rfl); (case hg => rfl); (case hr => first | (go_simp; done) | (go_simp; rfl)); intro gb187 hg w10 hbox hb; have n0_ := Aside0.mk (below_step (by repeat (first | (with_reducible first | exact HB.out | apply below_alloc | apply pw_below_drewN | apply below_drew1) | exact HB.out)) hb); have n1_ := Aside0.mk (hbox); have n2_ := Aside0.mk ((by rw [hg]; exact (below_size (by repeat (first | (with_reducible first | exact HB.out | apply below_alloc | apply pw_below_drewN | apply below_drew1) | exact HB.out))) : w.heap.size ≤ gb187)); have n3_ := Aside0.mk ((by rw [hg]; exact (below_size (by repeat (first | (with_reducible first | exact HB.out | apply below_alloc | apply pw_below_drewN | apply below_drew1) | exact HB.out))) : w.heap.size ≤ gb187)); clear HB; have HB := n0_; have BK187 := n1_; have GW187 := n2_; have GE187 := n3_; clear n0_ n1_ n2_ n3_; clear hb hbox hg) | ((with_reducible refine gate_callee (f := 31) rfl ?_); refine goesL_ (some 10) rfl rfl Tryd.func31 (by kernel_rfl) rfl #[.slice A0 l0.length c0, .int .i64 a1] rfl (by (try simp only [List.map_toArray, List.map_cons, List.map_nil]); first | done | rfl | (simp only [List.length_drop, List.length_take]; rfl)) ?_; (with_reducible refine (galleyref02_Long.calls k _ _ l0 a1 t188 _ ?side1 ?side2 A3.out).mono ?_); (case side1 => repeat (first | exact (Kd.C_below HR0.out HB.out) | (with_reducible refine Kd.C_alloc ?_ _) | (with_reducible refine Kd.C_drewN ?_ _) | (with_reducible refine Kd.C_drew ?_))); (case side2 => exact HC0.out); rintro e w' ⟨rfl, ⟨nd, rfl⟩⟩; refine ⟨_, rfl, ?_⟩; have p189 : 0 ≤ (a1 : Int) := of_decide_eq_true (by first | (with_reducible assumption) | assumption); have q189 : a1 < (l0.length : Int) := of_decide_eq_true (by first | (with_reducible assumption) | assumption); obtain ⟨ad189, e189, hx189_0⟩ := Kd.at_int HR0.out a1 p189 q189; cases e189; replace hx189_0 := (HB.out.cell (World.block_lt_of_cell? w _ hx189_0)).trans hx189_0; replace p189 := eq_true p189; replace q189 := eq_true q189))
        (try simp only [Act.put, List.setIfInBounds_toArray, List.set_cons_zero, List.set_cons_succ])
        go_cut [6] (fun v6 wc => ∃ (kq : Nat) (x6_8 : Int), v6 = .int .i64 x6_8 ∧ Aside0 (galleyref02_Of.j0 kq l0 a1 t188 x6_8 = some (r1, r2, r3)) ∧ Aside0 (kq ≤ k) ∧ Aside0 (wc.heap[gb187]? = some (.cells #[.int .i32 0, .int .i64 0, .bool false] 61 (0, 0))) ∧ Aside0 (Below w.heap.size w wc))
        case first =>
          have H := HC9.out
          clear HC9
          by_cases c11 : t188 = 2
          · rw [if_pos c11] at H
            have c11b0 : (t188 == 2) = true := beq_iff_eq.mpr c11
            have c11b1 : (t188 != 2) = false := bne_eq_false_iff_eq.mpr c11
            clear c11
            (first | rw [c11b0] | (simp only [i64_w, i32_w]; rw [c11b0]) | skip)
            have H' := Aside0.mk H
            clear H
            go_wp2
            go_meet
            case rel => exact ⟨_, (Int.tmod (wrap64 (rd l0 a1)) 32), (by first | rfl | (simp; done) | (simp [*]; done)), H', ⟨by first | omega | exact Nat.le_refl _⟩, ⟨by (with_reducible repeat (first | refine blk_drewN ?_ _ | refine blk_drew ?_ | refine blk_alloc ?_ _)); exact BK187.out⟩, ⟨by repeat (first | (with_reducible first | exact HB.out | apply below_alloc | apply pw_below_drewN | apply below_drew1 | refine below_set ?_ GE187.out) | exact HB.out)⟩⟩
          · rw [if_neg c11] at H
            have c11b0 : (t188 == 2) = false := beq_eq_false_iff_ne.mpr c11
            have c11b1 : (t188 != 2) = true := bne_iff_ne.mpr c11
            (first | rw [c11b0] | (simp only [i64_w, i32_w]; rw [c11b0]) | skip)
            by_cases c12 : t188 = 3
            · rw [if_pos c12] at H
              have c12b0 : (t188 == 3) = true := beq_iff_eq.mpr c12
              have c12b1 : (t188 != 3) = false := bne_eq_false_iff_eq.mpr c12
              clear c12
              have H' := Aside0.mk H
              clear H
              go_wp2
              go_meet
              case rel => exact ⟨_, (Int.tmod (wrap64 (rd l0 a1)) 16), (by first | rfl | (simp; done) | (simp [*]; done)), H', ⟨by first | omega | exact Nat.le_refl _⟩, ⟨by (with_reducible repeat (first | refine blk_drewN ?_ _ | refine blk_drew ?_ | refine blk_alloc ?_ _)); exact BK187.out⟩, ⟨by repeat (first | (with_reducible first | exact HB.out | apply below_alloc | apply pw_below_drewN | apply below_drew1 | refine below_set ?_ GE187.out) | exact HB.out)⟩⟩
            · rw [if_neg c12] at H
              have c12b0 : (t188 == 3) = false := beq_eq_false_iff_ne.mpr c12
              have c12b1 : (t188 != 3) = true := bne_iff_ne.mpr c12
              by_cases c13 : t188 = 4
              · rw [if_pos c13] at H
                have c13b0 : (t188 == 4) = true := beq_iff_eq.mpr c13
                have c13b1 : (t188 != 4) = false := bne_eq_false_iff_eq.mpr c13
                clear c13
                have H' := Aside0.mk H
                clear H
                go_wp2
                go_meet
                case rel => exact ⟨_, (Int.tmod (wrap64 (rd l0 a1)) 8), (by first | rfl | (simp; done) | (simp [*]; done)), H', ⟨by first | omega | exact Nat.le_refl _⟩, ⟨by (with_reducible repeat (first | refine blk_drewN ?_ _ | refine blk_drew ?_ | refine blk_alloc ?_ _)); exact BK187.out⟩, ⟨by repeat (first | (with_reducible first | exact HB.out | apply below_alloc | apply pw_below_drewN | apply below_drew1 | refine below_set ?_ GE187.out) | exact HB.out)⟩⟩
              · rw [if_neg c13] at H
                have c13b0 : (t188 == 4) = false := beq_eq_false_iff_ne.mpr c13
                have c13b1 : (t188 != 4) = true := bne_iff_ne.mpr c13
                have H' := Aside0.mk H
                clear H
                go_wp2
                go_meet
                case rel => exact ⟨_, (wrap64 (rd l0 a1)), (by first | rfl | (simp; done) | (simp [*]; done)), H', ⟨by first | omega | exact Nat.le_refl _⟩, ⟨by (with_reducible repeat (first | refine blk_drewN ?_ _ | refine blk_drew ?_ | refine blk_alloc ?_ _)); exact BK187.out⟩, ⟨by repeat (first | (with_reducible first | exact HB.out | apply below_alloc | apply pw_below_drewN | apply below_drew1 | refine below_set ?_ GE187.out) | exact HB.out)⟩⟩
        case rest =>
          clear HC9
          try clear c1
          try clear p1
          try clear q1
          try clear hx1
          try clear p2
          try clear c3
          try clear c4
          try clear c4b0
          try clear c4b1
          try clear p6
          try clear c7
          try clear c7b0
          try clear c8
          try clear c8b0
          try clear c11
          try clear c11b0
          try clear c11b1
          try clear c12
          try clear c12b0
          try clear c12b1
          try clear c13
          try clear c13b0
          try clear c13b1
          try clear hcz6_0
          try clear hcz6_1
          try clear hcz6_2
          try clear hfz6_0
          try clear hfz6_1
          try clear hfz6_2
          try clear hx189_0
          try clear p189
          try clear q189
          obtain ⟨kq, x6_8, rfl, HA, HJ8, BK187, HB⟩ := hcut
          cases kq with
          | zero => exact absurd HA.out (by simp [galleyref02_Of.j0])
          | succ kj8 =>
            have H := HA.out
            clear HA
            simp only [galleyref02_Of.j0] at H
            have H' := Aside0.mk H
            clear H
            go_wp2
            go_loopg [6, 7] kj8 (fun kq v6 v7 w' => ∃ (x6_2 : Int) (x7_2 : Int), v6 = .int .i64 x6_2 ∧ v7 = .int .i64 x7_2 ∧ Aside0 (galleyref02_Of.l0 kq l0 a1 t188 x6_2 x7_2 = some (r1, r2, r3)) ∧ Aside0 (kq ≤ kj8) ∧ Aside0 (w'.heap[gb187]? = some (.cells #[.int .i32 0, .int .i64 0, .bool false] 61 (0, 0))) ∧ Aside0 (Below w.heap.size w w'))
            case atStart => exact ⟨(x6_8), (1), (by first | rfl | (simp; done) | (simp [*]; done)), (by first | rfl | (simp; done) | (simp [*]; done)), H', ⟨Nat.le_refl _⟩, ⟨by (with_reducible repeat (first | refine blk_drewN ?_ _ | refine blk_drew ?_ | refine blk_alloc ?_ _)); exact BK187.out⟩, ⟨by repeat (first | (with_reducible first | exact HB.out | apply below_alloc | apply pw_below_drewN | apply below_drew1 | refine below_set ?_ GE187.out) | exact HB.out)⟩⟩
            case round =>
              clear H'
              try clear c1
              try clear p1
              try clear q1
              try clear hx1
              try clear p2
              try clear c3
              try clear c4
              try clear c4b0
              try clear c4b1
              try clear p6
              try clear c7
              try clear c7b0
              try clear c8
              try clear c8b0
              try clear c11
              try clear c11b0
              try clear c11b1
              try clear c12
              try clear c12b0
              try clear c12b1
              try clear c13
              try clear c13b0
              try clear c13b1
              try clear hcz6_0
              try clear hcz6_1
              try clear hcz6_2
              try clear hfz6_0
              try clear hfz6_1
              try clear hfz6_2
              try clear hx189_0
              try clear p1
              try clear p189
              try clear p2
              try clear p6
              try clear q1
              try clear q189
              obtain ⟨x6_2, x7_2, rfl, rfl, HA, HK2, BK187, HB⟩ := hrel
              cases gk with
              | zero => exact absurd HA.out (by simp [galleyref02_Of.l0])
              | succ k2 =>
                have H := HA.out
                clear HA
                simp only [galleyref02_Of.l0] at H
                by_cases c14 : x7_2 < t188
                · rw [if_pos c14] at H
                  have c14b0 : decide (x7_2 < t188) = true := decide_eq_true c14
                  clear c14
                  obtain ⟨ji15, hji15⟩ : ∃ j_ : Int, (wrap64 (a1 + x7_2)) = j_ := ⟨_, rfl⟩
                  replace H : (if 0 ≤ (ji15) then (if (ji15) < (l0.length : Int) then (galleyref02_Of.l0 k2 l0 a1 t188 (wrap64 ((wrap64 (x6_2 * 64)) + (Int.tmod (wrap64 (rd l0 (ji15))) 64))) (wrap64 (x7_2 + 1))) else (none)) else (none)) = some (r1, r2, r3) := by first | (rw [hji15] at H; exact H) | (simp only [hji15] at H ⊢; exact H)
                  have hji15w : (IntKind.i64.wrap (a1 + x7_2)) = ji15 := (i64_w _).trans hji15
                  by_cases c16 : 0 ≤ (ji15)
                  · rw [if_pos c16] at H
                    have c16b0 : decide (0 ≤ (ji15)) = true := decide_eq_true c16
                    clear c16
                    by_cases c17 : (ji15) < (l0.length : Int)
                    · rw [if_pos c17] at H
                      have c17b0 : decide ((ji15) < (l0.length : Int)) = true := decide_eq_true c17
                      clear c17
                      have H' := Aside0.mk H
                      clear H
                      have p190 : 0 ≤ ((ji15) : Int) := of_decide_eq_true (by first | (with_reducible assumption) | assumption)
                      have q190 : (ji15) < (l0.length : Int) := of_decide_eq_true (by first | (with_reducible assumption) | assumption)
                      obtain ⟨ad190, e190, hx190_0⟩ := Kd.at_int HR0.out (ji15) p190 q190
                      obtain rfl : ad189 = ad190 := (by injection e190)
                      replace hx190_0 := (HB.out.cell (World.block_lt_of_cell? w _ hx190_0)).trans hx190_0
                      replace p190 := eq_true p190
                      replace q190 := eq_true q190
                      go_wp2
                      go_roundg k2
                      case measure => have := HJ8.out; have := HK2.out; omega
                      case rel => exact ⟨(wrap64 ((wrap64 (x6_2 * 64)) + (Int.tmod (wrap64 (rd l0 (ji15))) 64))), (wrap64 (x7_2 + 1)), (by first | rfl | (simp; done) | (simp only [← hji15] <;> (first | rfl | simp)) | (simp [*]; done)), (by first | rfl | (simp; done) | (simp [*]; done)), H', ⟨by have := HJ8.out; have := HK2.out; omega⟩, ⟨by (with_reducible repeat (first | refine blk_drewN ?_ _ | refine blk_drew ?_ | refine blk_alloc ?_ _)); exact BK187.out⟩, ⟨by repeat (first | (with_reducible first | exact HB.out | apply below_alloc | apply pw_below_drewN | apply below_drew1 | refine below_set ?_ GE187.out) | exact HB.out)⟩⟩
                    · rw [if_neg c17] at H
                      exact absurd H (by simp)
                  · rw [if_neg c16] at H
                    exact absurd H (by simp)
                · rw [if_neg c14] at H
                  have c14b0 : decide (x7_2 < t188) = false := decide_eq_false c14
                  clear c14
                  simp only [Option.some.injEq, Prod.mk.injEq] at H
                  obtain ⟨rfl, rfl, rfl⟩ := H
                  have hcz18_0 : wr.cell? ⟨gb187, 0, none⟩ = some (.int .i32 0) := (blk_cell BK187.out 0).trans rfl
                  have hcz18_1 : wr.cell? ⟨gb187, 1, none⟩ = some (.int .i64 0) := (blk_cell BK187.out 1).trans rfl
                  have hcz18_2 : wr.cell? ⟨gb187, 2, none⟩ = some (.bool false) := (blk_cell BK187.out 2).trans rfl
                  have hfz18_0 := blk_frozen BK187.out 0
                  have hfz18_1 := blk_frozen BK187.out 1
                  have hfz18_2 := blk_frozen BK187.out 2
                  go_wp2
                  refine bodyPost_ret (results_cell_row rfl _ _ gb187 61 #[.int .i32 (wrap32 (x6_2)), .int .i64 t188, .bool true] (0, 0) _ rfl (by (with_reducible repeat (first | refine blk_drewN ?_ _ | refine blk_drew ?_ | refine blk_alloc ?_ _)); refine blk_put (cs := #[.int .i32 (wrap32 (x6_2)), .int .i64 t188, .bool false]) ?_ 2 _ rfl; (with_reducible repeat (first | refine blk_drewN ?_ _ | refine blk_drew ?_ | refine blk_alloc ?_ _)); refine blk_put (cs := #[.int .i32 (wrap32 (x6_2)), .int .i64 0, .bool false]) ?_ 1 _ rfl; (with_reducible repeat (first | refine blk_drewN ?_ _ | refine blk_drew ?_ | refine blk_alloc ?_ _)); refine blk_put (cs := #[.int .i32 0, .int .i64 0, .bool false]) ?_ 0 _ rfl; (with_reducible repeat (first | refine blk_drewN ?_ _ | refine blk_drew ?_ | refine blk_alloc ?_ _)); exact BK187.out) Tryd.underlying61 rfl (by kernel_rfl)) rfl ?_
                  exact ⟨by first | rfl | (simp [errW_none, errW_some] <;> rfl) | (simp [*, errW_none, errW_some] <;> rfl), by repeat (first | (with_reducible first | exact HB.out | apply below_alloc | apply pw_below_drewN | apply below_drew1 | refine below_set ?_ GE187.out) | exact HB.out)⟩
      · rw [if_neg c8] at H
        exact absurd H (by simp)
    · rw [if_neg c7] at H
      exact absurd H (by simp)

/-! ### galleyref02_Steps: function 25 -/
def galleyref02_Steps.l0 : Nat → List Int → List (S61) → List Int → Int → Option ((List (S61)))
  | 0, _, _, _, _ => none
  | k + 1, x0, x3, x4, x5 => if (wrap64 (x5 + 1)) < (x4.length : Int) then (if 0 ≤ x5 then (if x5 < (x4.length : Int) then ((galleyref02_Of.f k x0 (rd x4 x5)).bind fun bt195 => (if x3.length < 5864062014805 then (galleyref02_Steps.l0 k x0 (x3 ++ [(⟨bt195.1, bt195.2.1, bt195.2.2⟩ : S61)]) x4 (wrap64 (x5 + 1))) else (none))) else (none)) else (none)) else (some x3)
def galleyref02_Steps.f (k : Nat) (l0 : List Int) : Option ((List (S61))) := (galleyref02_Edges.f k l0).bind fun t191 => (galleyref02_Steps.l0 k l0 ([] : List (S61)) t191 0)
theorem galleyref02_Steps.mono_l : ∀ k, (∀ y0 y1 y2 y3, LeO (galleyref02_Steps.l0 k y0 y1 y2 y3) (galleyref02_Steps.l0 (k + 1) y0 y1 y2 y3))
  | 0 => fun _ _ _ _ r h => by simp [galleyref02_Steps.l0] at h
  | k + 1 => by
    have ih0 := galleyref02_Steps.mono_l k
    · intro y0 y1 y2 y3
      unfold galleyref02_Steps.l0
      repeat' first
      | (with_reducible exact ih0 _ _ _ _)
      | (with_reducible exact galleyref02_Edges.mono _ _)
      | (with_reducible exact galleyref02_Of.mono _ _ _)
      | (with_reducible exact LeO.refl _)
      | (with_reducible exact LeO.none _)
      | (with_reducible refine LeO.ite ?_ ?_)
      | (with_reducible refine LeO.bind ?_ (fun _ => ?_))
      | exact ih0 _ _ _ _
      | exact galleyref02_Edges.mono _ _
      | exact galleyref02_Of.mono _ _ _
      | exact LeO.none _
      | refine LeO.ite ?_ ?_
      | refine LeO.bind ?_ (fun _ => ?_)
theorem galleyref02_Steps.mono : ∀ a0 k, LeO (galleyref02_Steps.f k a0) (galleyref02_Steps.f (k + 1) a0) := by
  intro a0 k
  have ih0 := galleyref02_Steps.mono_l k
  unfold galleyref02_Steps.f
  repeat' first
      | (with_reducible exact ih0 _ _ _ _)
      | (with_reducible exact galleyref02_Edges.mono _ _)
      | (with_reducible exact galleyref02_Of.mono _ _ _)
      | (with_reducible exact LeO.refl _)
      | (with_reducible exact LeO.none _)
      | (with_reducible refine LeO.ite ?_ ?_)
      | (with_reducible refine LeO.bind ?_ (fun _ => ?_))
      | exact ih0 _ _ _ _
      | exact galleyref02_Edges.mono _ _
      | exact galleyref02_Of.mono _ _ _
      | exact LeO.none _
      | refine LeO.ite ?_ ?_
      | refine LeO.bind ?_ (fun _ => ?_)
set_option maxHeartbeats 8000000 in
set_option maxRecDepth 100000 in
theorem galleyref02_Steps.calls (k : Nat) (A0 : Option Addr) (c0 : Nat) (l0 : List Int) (r : List (S61)) (w : World) (hr0 : Kd.C (Kd.int .u8) w A0 l0.length l0) (hc0 : l0.length ≤ c0) (h : galleyref02_Steps.f k l0 = some r) :
    Calls Tryd.prog 25 #[.slice A0 l0.length c0] w fun e w' => ∃ v0_ : Value, e = .returned (v0_) ∧ Kd.R k61 61 w' w.heap.size (fun _ => True) v0_ r ∧ Below w.heap.size w w' := by
  have HR0 := Aside0.mk hr0
  have HC0 := Aside0.mk hc0
  clear hr0 hc0
  have HB := Aside0.mk (Below.refl w.heap.size w)
  have H : ((galleyref02_Edges.f k l0).bind fun t191 => (galleyref02_Steps.l0 k l0 ([] : List (S61)) t191 0)) = some r := h
  clear h
  replace H := Option.bind_eq_some_iff.mp H
  obtain ⟨t191, A20, H⟩ := H
  replace H : (galleyref02_Steps.l0 k l0 ([] : List (S61)) t191 0) = some r := H
  have A2 := Aside0.mk A20
  clear A20
  have H' := Aside0.mk H
  clear H
  go_enter Tryd.func25, Tryd.ntmps25
  go_wp2_with (first | ((with_reducible refine gate_callee (f := 32) rfl ?_); refine goesL_ (some 7) rfl rfl Tryd.func32 (by kernel_rfl) rfl #[.slice A0 l0.length c0] rfl (by (try simp only [List.map_toArray, List.map_cons, List.map_nil]); first | done | rfl | (simp only [List.length_drop, List.length_take]; rfl)) ?_; (with_reducible refine (galleyref02_Edges.calls k _ _ l0 t191 _ ?side1 ?side2 A2.out).mono ?_); (case side1 => repeat (first | exact HR0.out | (with_reducible refine Kd.C_alloc ?_ _) | (with_reducible refine Kd.C_drewN ?_ _) | (with_reducible refine Kd.C_drew ?_))); (case side2 => exact HC0.out); rintro e w3 ⟨v192, rfl, ho0, hb⟩; refine ⟨_, rfl, ?_⟩; have n0_ := Aside0.mk (Kd.R_lower ho0 (below_size (by repeat (first | (with_reducible first | exact HB.out | apply below_alloc | apply pw_below_drewN | apply below_drew1) | exact HB.out)))); have n1_ := Aside0.mk (below_step (by repeat (first | (with_reducible first | exact HB.out | apply below_alloc | apply pw_below_drewN | apply below_drew1) | exact HB.out)) hb); clear HB; have HO193 := n0_; have HB := n1_; clear n0_ n1_; (try clear hb); (try clear hb2); (try clear hk); (try clear hi); (try clear ho0)))
  go_loopg [3, 5] k (fun kq v3 v5 w' => ∃ (x3_1 : List (S61)) (x5_1 : Int), v5 = .int .i64 x5_1 ∧ Aside0 (galleyref02_Steps.l0 kq l0 x3_1 t191 x5_1 = some r) ∧ Aside0 (kq ≤ k) ∧ Aside0 (Kd.R k61 61 w' w.heap.size (fun _ => True) v3 x3_1) ∧ Aside0 (Kd.R (Kd.int .i64) 3 w' w.heap.size (fun _ => True) v192 t191) ∧ Aside0 (Below w.heap.size w w'))
  case atStart => exact ⟨(([] : List (S61))), (0), (by first | rfl | (simp; done) | (simp [*]; done)), H', ⟨Nat.le_refl _⟩, ⟨by first | exact Kd.R_nil _ _ _ _ _ | exact Kd.N_nil _ _ _ _ _ | exact Kd.V_nil _ _ _ _ _ | exact Kd.Q_nil _ _ _ _ _ | exact Kd.S_nil _ _ _ _ _⟩, ⟨by (with_reducible repeat (first | apply Kd.R_alloc | apply Kd.R_drewN | apply Kd.R_drew)); exact HO193.out⟩, ⟨by repeat (first | (with_reducible first | exact HB.out | apply below_alloc | apply pw_below_drewN | apply below_drew1) | exact HB.out)⟩⟩
  case round =>
    clear H'
    try clear c2
    try clear p2
    try clear c3
    obtain ⟨x3_1, x5_1, rfl, HA, HK1, HO_3, HO_4, HB⟩ := hrel
    cases gk with
    | zero => exact absurd HA.out (by simp [galleyref02_Steps.l0])
    | succ k1 =>
      have H := HA.out
      clear HA
      simp only [galleyref02_Steps.l0] at H
      by_cases c4 : (wrap64 (x5_1 + 1)) < (t191.length : Int)
      · rw [if_pos c4] at H
        have c4b0 : decide ((wrap64 (x5_1 + 1)) < (t191.length : Int)) = true := decide_eq_true c4
        clear c4
        by_cases c5 : 0 ≤ x5_1
        · rw [if_pos c5] at H
          have c5b0 : decide (0 ≤ x5_1) = true := decide_eq_true c5
          clear c5
          by_cases c6 : x5_1 < (t191.length : Int)
          · rw [if_pos c6] at H
            have c6b0 : decide (x5_1 < (t191.length : Int)) = true := decide_eq_true c6
            clear c6
            replace H := Option.bind_eq_some_iff.mp H
            obtain ⟨⟨t195, t196, t197⟩, A70, H⟩ := H
            replace H : (if x3_1.length < 5864062014805 then (galleyref02_Steps.l0 k1 l0 (x3_1 ++ [(⟨t195, t196, t197⟩ : S61)]) t191 (wrap64 (x5_1 + 1))) else (none)) = some r := H
            have A7 := Aside0.mk A70
            clear A70
            by_cases c8 : x3_1.length < 5864062014805
            · rw [if_pos c8] at H
              have LMc8 := Aside0.mk c8
              clear c8
              obtain ⟨y198, hy198⟩ : ∃ y_ : List (S61), y_ = (x3_1 ++ [(⟨t195, t196, t197⟩ : S61)]) := ⟨_, rfl⟩
              replace H : (galleyref02_Steps.l0 k1 l0 y198 t191 (wrap64 (x5_1 + 1))) = some r := by first | (rw [hy198]; with_reducible exact H) | (have H2_ := (Option.bind_some _ _).symm.trans H; rw [hy198]; with_reducible exact H2_) | (have H2_ := (Option.bind_some _ _).symm.trans H; with_reducible exact H2_) | with_reducible exact H | (rw [hy198]; exact H) | exact H
              have Ny198 := Aside0.mk hy198
              clear hy198
              have H' := Aside0.mk H
              clear H
              obtain ⟨Ao9, co9, eo9⟩ := Kd.R_slice HO_4.out
              subst eo9
              have p194 : 0 ≤ (x5_1 : Int) := of_decide_eq_true (by first | (with_reducible assumption) | assumption)
              have q194 : x5_1 < (t191.length : Int) := of_decide_eq_true (by first | (with_reducible assumption) | assumption)
              obtain ⟨ad194, e194, hx194_0⟩ := Kd.at_int (Kd.R_reads' HO_4.out).2.2 x5_1 p194 q194
              cases e194
              replace p194 := eq_true p194
              replace q194 := eq_true q194
              go_wp2_with (first | ((with_reducible refine gate_callee (f := 33) rfl ?_); refine goesL_ (some 21) rfl rfl Tryd.func33 (by kernel_rfl) rfl #[.slice A0 l0.length c0, .int .i64 (rd t191 x5_1)] rfl (by (try simp only [List.map_toArray, List.map_cons, List.map_nil]); first | done | rfl | (simp only [List.length_drop, List.length_take]; rfl)) ?_; (with_reducible refine (galleyref02_Of.calls k1 _ _ l0 (rd t191 x5_1) t195 t196 t197 _ ?side1 ?side2 A7.out).mono ?_); (case side1 => repeat (first | exact (Kd.C_below HR0.out HB.out) | (with_reducible refine Kd.C_alloc ?_ _) | (with_reducible refine Kd.C_drewN ?_ _) | (with_reducible refine Kd.C_drew ?_))); (case side2 => exact HC0.out); rintro e w10 ⟨rfl, hb⟩; refine ⟨_, rfl, ?_⟩; have n0_ := Aside0.mk (Kd.R_below (by (with_reducible repeat (first | apply Kd.R_alloc | apply Kd.R_drewN | apply Kd.R_drew)); exact HO_3.out) hb); have n1_ := Aside0.mk (Kd.R_below (by (with_reducible repeat (first | apply Kd.R_alloc | apply Kd.R_drewN | apply Kd.R_drew)); exact HO_4.out) hb); have n2_ := Aside0.mk (below_step (by repeat (first | (with_reducible first | exact HB.out | apply below_alloc | apply pw_below_drewN | apply below_drew1) | exact HB.out)) hb); clear HO_3; clear HO_4; clear HB; have HO_3 := n0_; have HO_4 := n1_; have HB := n2_; clear n0_ n1_ n2_; (try clear hb); (try clear hb2); (try clear hk); (try clear hi)) | ((with_reducible refine gate_builtin (b := .append) (xs := #[.tmp 15, .tmp 22]) rfl ?_); at_builtin; refine Kd.R_append k61 (w0 := w) w.heap.size rfl (.tmp 15) (.tmp 22) 57 61 (.agg #[(.int .i32 0), (.int .i64 0), (.bool false)]) 24 rfl Tryd.underlying57 info61 rfl (by decide) (by omega) u3 x3_1 (⟨t195, t196, t197⟩ : S61) [.int .i32 t195, .int .i64 t196, .bool t197] (fun _ => True) (fun _ => False) rfl rfl ?aP (fun _ hk => hk.elim) ?aF ?aO ?aB ?aS ?aL ?_; (case aP => exact k61_mkM _ _ _ (⟨t195, t196, t197⟩ : S61)); (case aB => exact (by repeat (first | (with_reducible first | exact HB.out | apply below_alloc | apply pw_below_drewN | apply below_drew1) | exact HB.out))); (case aF => exact (fun _ _ => trivial)); (case aO => exact (by (with_reducible repeat (first | apply Kd.R_alloc | apply Kd.R_drewN | apply Kd.R_drew)); exact HO_3.out)); (case aS => exact (below_size (by repeat (first | (with_reducible first | exact HB.out | apply below_alloc | apply pw_below_drewN | apply below_drew1) | exact HB.out)))); (case aL => have := LMc8.out; omega); intro v199 w11 ho hb hg hat; rw [← Ny198.out] at ho; have n0_ := Aside0.mk (Kd.R_over' (by (with_reducible repeat (first | apply Kd.R_alloc | apply Kd.R_drewN | apply Kd.R_drew)); exact HO_4.out) (Kd.R_typed (by (with_reducible repeat (first | apply Kd.R_alloc | apply Kd.R_drewN | apply Kd.R_drew)); exact HO_3.out)) (by decide) hg); have n1_ := Aside0.mk (hb); have n2_ := Aside0.mk (ho); clear HO_4; clear HB; clear HO_3; have HO_4 := n0_; have HB := n1_; have HO200 := n2_; clear n0_ n1_ n2_; clear ho hb hg hat))
              go_roundg k1
              case measure => have := HK1.out; omega
              case rel => exact ⟨(y198), (wrap64 (x5_1 + 1)), (by first | rfl | (simp; done) | (simp [*]; done)), H', ⟨by have := HK1.out; omega⟩, ⟨by (with_reducible repeat (first | apply Kd.R_alloc | apply Kd.R_drewN | apply Kd.R_drew)); exact HO200.out⟩, ⟨by (with_reducible repeat (first | apply Kd.R_alloc | apply Kd.R_drewN | apply Kd.R_drew)); exact HO_4.out⟩, ⟨by repeat (first | (with_reducible first | exact HB.out | apply below_alloc | apply pw_below_drewN | apply below_drew1) | exact HB.out)⟩⟩
            · rw [if_neg c8] at H
              exact absurd H (by simp)
          · rw [if_neg c6] at H
            exact absurd H (by simp)
        · rw [if_neg c5] at H
          exact absurd H (by simp)
      · rw [if_neg c4] at H
        have c4b0 : decide ((wrap64 (x5_1 + 1)) < (t191.length : Int)) = false := decide_eq_false c4
        clear c4
        obtain rfl := Option.some.inj H
        obtain ⟨Ao12, co12, eo12⟩ := Kd.R_slice HO_4.out
        subst eo12
        go_wp2
        go_ret
        exact ⟨_, by first | rfl | (simp [errW_none, errW_some] <;> rfl) | (simp [*, errW_none, errW_some] <;> rfl), by (with_reducible repeat (first | apply Kd.R_alloc | apply Kd.R_drewN | apply Kd.R_drew)); exact HO_3.out, by repeat (first | (with_reducible first | exact HB.out | apply below_alloc | apply pw_below_drewN | apply below_drew1) | exact HB.out)⟩

/-! ### galleyref05_units: function 26 -/
def galleyref05_units.f (a0_0 : Int) (a0_1 : Int) (a0_2 : Bool) : Option (Int) := if a0_0 > 65535 then (some 2) else (some 1)
set_option maxHeartbeats 8000000 in
set_option maxRecDepth 100000 in
theorem galleyref05_units.calls (a0_0 : Int) (a0_1 : Int) (a0_2 : Bool) (r : Int) (w : World) (h : galleyref05_units.f a0_0 a0_1 a0_2 = some r) :
    Calls Tryd.prog 26 #[.agg #[.int .i32 a0_0, .int .i64 a0_1, .bool a0_2]] w fun e w' => e = .returned (.int .i64 r) ∧ Below w.heap.size w w' := by
  have hu61 := Tryd.underlying61
  have HB := Aside0.mk (Below.refl w.heap.size w)
  have H : (if a0_0 > 65535 then (some 2) else (some 1)) = some r := h
  clear h
  by_cases c2 : a0_0 > 65535
  · rw [if_pos c2] at H
    have c2b0 : decide (65535 < a0_0) = true := decide_eq_true c2
    clear c2
    obtain rfl := Option.some.inj H
    go_enter Tryd.func26, Tryd.ntmps26
    go_wp2_with (first | ((with_reducible refine gate_dst (N := 1) rfl ?_); refine box_event ?hg (N := 1) ?hd (cs := #[.int .i32 a0_0, .int .i64 a0_1, .bool a0_2]) (t := 61) ?hr ?_; (case hd => rfl); (case hg => rfl); (case hr => first | (go_simp; done) | (go_simp; rfl)); intro gb201 hg w3 hbox hb; have n0_ := Aside0.mk (below_step (by repeat (first | (with_reducible first | exact HB.out | apply below_alloc | apply pw_below_drewN | apply below_drew1) | exact HB.out)) hb); have n1_ := Aside0.mk (hbox); have n2_ := Aside0.mk ((by rw [hg]; exact (below_size (by repeat (first | (with_reducible first | exact HB.out | apply below_alloc | apply pw_below_drewN | apply below_drew1) | exact HB.out))) : w.heap.size ≤ gb201)); have n3_ := Aside0.mk ((by rw [hg]; exact (below_size (by repeat (first | (with_reducible first | exact HB.out | apply below_alloc | apply pw_below_drewN | apply below_drew1) | exact HB.out))) : w.heap.size ≤ gb201)); clear HB; have HB := n0_; have BK201 := n1_; have GW201 := n2_; have GE201 := n3_; clear n0_ n1_ n2_ n3_; clear hb hbox hg; have hcz4_0 : w3.cell? ⟨gb201, 0, none⟩ = some (.int .i32 a0_0) := (blk_cell BK201.out 0).trans rfl; have hcz4_1 : w3.cell? ⟨gb201, 1, none⟩ = some (.int .i64 a0_1) := (blk_cell BK201.out 1).trans rfl; have hcz4_2 : w3.cell? ⟨gb201, 2, none⟩ = some (.bool a0_2) := (blk_cell BK201.out 2).trans rfl; have hfz4_0 := blk_frozen BK201.out 0; have hfz4_1 := blk_frozen BK201.out 1; have hfz4_2 := blk_frozen BK201.out 2))
    go_ret
    exact ⟨by first | rfl | (simp [errW_none, errW_some] <;> rfl) | (simp [*, errW_none, errW_some] <;> rfl), by repeat (first | (with_reducible first | exact HB.out | apply below_alloc | apply pw_below_drewN | apply below_drew1 | refine below_set ?_ GE201.out) | exact HB.out)⟩
  · rw [if_neg c2] at H
    have c2b0 : decide (65535 < a0_0) = false := decide_eq_false c2
    clear c2
    obtain rfl := Option.some.inj H
    go_enter Tryd.func26, Tryd.ntmps26
    go_wp2_with (first | ((with_reducible refine gate_dst (N := 1) rfl ?_); refine box_event ?hg (N := 1) ?hd (cs := #[.int .i32 a0_0, .int .i64 a0_1, .bool a0_2]) (t := 61) ?hr ?_; (case hd => rfl); (case hg => rfl); (case hr => first | (go_simp; done) | (go_simp; rfl)); intro gb201 hg w5 hbox hb; have n0_ := Aside0.mk (below_step (by repeat (first | (with_reducible first | exact HB.out | apply below_alloc | apply pw_below_drewN | apply below_drew1) | exact HB.out)) hb); have n1_ := Aside0.mk (hbox); have n2_ := Aside0.mk ((by rw [hg]; exact (below_size (by repeat (first | (with_reducible first | exact HB.out | apply below_alloc | apply pw_below_drewN | apply below_drew1) | exact HB.out))) : w.heap.size ≤ gb201)); have n3_ := Aside0.mk ((by rw [hg]; exact (below_size (by repeat (first | (with_reducible first | exact HB.out | apply below_alloc | apply pw_below_drewN | apply below_drew1) | exact HB.out))) : w.heap.size ≤ gb201)); clear HB; have HB := n0_; have BK201 := n1_; have GW201 := n2_; have GE201 := n3_; clear n0_ n1_ n2_ n3_; clear hb hbox hg; have hcz6_0 : w5.cell? ⟨gb201, 0, none⟩ = some (.int .i32 a0_0) := (blk_cell BK201.out 0).trans rfl; have hcz6_1 : w5.cell? ⟨gb201, 1, none⟩ = some (.int .i64 a0_1) := (blk_cell BK201.out 1).trans rfl; have hcz6_2 : w5.cell? ⟨gb201, 2, none⟩ = some (.bool a0_2) := (blk_cell BK201.out 2).trans rfl; have hfz6_0 := blk_frozen BK201.out 0; have hfz6_1 := blk_frozen BK201.out 1; have hfz6_2 := blk_frozen BK201.out 2))
    go_ret
    exact ⟨by first | rfl | (simp [errW_none, errW_some] <;> rfl) | (simp [*, errW_none, errW_some] <;> rfl), by repeat (first | (with_reducible first | exact HB.out | apply below_alloc | apply pw_below_drewN | apply below_drew1 | refine below_set ?_ GE201.out) | exact HB.out)⟩

end Go.Proofs.YtiolhoaoepgmcaaDoor.Pr
