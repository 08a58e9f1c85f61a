-- Laid by wip/drive/drive.py of this proof's repo (a driver over the kit's print): not typed by hand, not trusted: Lean checks it.
import Derived.Test.YtbbccljelfjnkaaDoorPr0
import Derived.Test.YtbbccljelfjnkaaDoorPr3
namespace Go.Proofs.YtbbccljelfjnkaaDoor.Pr
open Go.RowKit Go.Proofs.YtbbccljelfjnkaaDoorW.PrintWords Go.Proofs.YtbbccljelfjnkaaDoorW.PrintLast Go.Proofs.YtbbccljelfjnkaaDoorW.PrintMore
attribute [local go_sem] max2_int min2_int max_two min_two max_three min_three max_four min_four   -- for this text's walks alone
set_option linter.unusedVariables false
set_option linter.unusedSimpArgs false

/-! ### galleyref01_Begins: function 24 -/
mutual
def galleyref01_Begins.j0 : Nat → List Int → Bool → Option (Bool)
  | 0, _, _ => none
  | k + 1, x0, x16 => if x16 = true then (some false) else (if (x0.length : Int) > 1 then (if 0 < (x0.length : Int) then (if 1 < (x0.length : Int) then ((galleyref01_Second.f k (rd x0 0) (rd x0 1)).bind fun t140 => (if t140 = true then (galleyref01_Begins.j1 k x0) else (some false))) else (none)) else (none)) else (galleyref01_Begins.j1 k x0))
def galleyref01_Begins.j1 : Nat → List Int → Option (Bool)
  | 0, _ => none
  | k + 1, x0 => galleyref01_Begins.l0 k x0 2
def galleyref01_Begins.l0 : Nat → List Int → Int → Option (Bool)
  | 0, _, _ => none
  | k + 1, x0, x4 => if x4 < (x0.length : Int) then (if 0 ≤ x4 then ((galleyref01_Class.f (rd x0 x4)).bind fun t142 => (if t142 = 2 then (galleyref01_Begins.l0 k x0 (wrap64 (x4 + 1))) else (some false))) else (none)) else (some true)
end
def galleyref01_Begins.f (k : Nat) (l0 : List Int) : Option (Bool) := if (l0.length : Int) = 0 then (galleyref01_Begins.j0 k l0 true) else (if 0 < (l0.length : Int) then ((galleyref01_Need.f (rd l0 0)).bind fun t137 => (galleyref01_Begins.j0 k l0 (decide ((l0.length : Int) > t137)))) else (none))
theorem galleyref01_Begins.mono_l : ∀ k, (∀ y0 y1, LeO (galleyref01_Begins.j0 k y0 y1) (galleyref01_Begins.j0 (k + 1) y0 y1)) ∧ (∀ y0, LeO (galleyref01_Begins.j1 k y0) (galleyref01_Begins.j1 (k + 1) y0)) ∧ (∀ y0 y1, LeO (galleyref01_Begins.l0 k y0 y1) (galleyref01_Begins.l0 (k + 1) y0 y1))
  | 0 => ⟨fun _ _ r h => by simp [galleyref01_Begins.j0] at h, fun _ r h => by simp [galleyref01_Begins.j1] at h, fun _ _ r h => by simp [galleyref01_Begins.l0] at h⟩
  | k + 1 => by
    obtain ⟨ih0, ih1, ih2⟩ := galleyref01_Begins.mono_l k
    refine ⟨?_, ?_, ?_⟩
    · intro y0 y1
      unfold galleyref01_Begins.j0
      repeat' first
      | (with_reducible exact ih0 _ _)
      | (with_reducible exact ih1 _)
      | (with_reducible exact ih2 _ _)
      | (with_reducible exact galleyref01_Second.mono _ _ _)
      | (with_reducible exact LeO.refl _)
      | (with_reducible exact LeO.none _)
      | (with_reducible refine LeO.ite ?_ ?_)
      | (with_reducible refine LeO.bind ?_ (fun _ => ?_))
      | exact ih0 _ _
      | exact ih1 _
      | exact ih2 _ _
      | exact galleyref01_Second.mono _ _ _
      | exact LeO.none _
      | refine LeO.ite ?_ ?_
      | refine LeO.bind ?_ (fun _ => ?_)
    · intro y0
      unfold galleyref01_Begins.j1
      repeat' first
      | (with_reducible exact ih0 _ _)
      | (with_reducible exact ih1 _)
      | (with_reducible exact ih2 _ _)
      | (with_reducible exact galleyref01_Second.mono _ _ _)
      | (with_reducible exact LeO.refl _)
      | (with_reducible exact LeO.none _)
      | (with_reducible refine LeO.ite ?_ ?_)
      | (with_reducible refine LeO.bind ?_ (fun _ => ?_))
      | exact ih0 _ _
      | exact ih1 _
      | exact ih2 _ _
      | exact galleyref01_Second.mono _ _ _
      | exact LeO.none _
      | refine LeO.ite ?_ ?_
      | refine LeO.bind ?_ (fun _ => ?_)
    · intro y0 y1
      unfold galleyref01_Begins.l0
      repeat' first
      | (with_reducible exact ih0 _ _)
      | (with_reducible exact ih1 _)
      | (with_reducible exact ih2 _ _)
      | (with_reducible exact galleyref01_Second.mono _ _ _)
      | (with_reducible exact LeO.refl _)
      | (with_reducible exact LeO.none _)
      | (with_reducible refine LeO.ite ?_ ?_)
      | (with_reducible refine LeO.bind ?_ (fun _ => ?_))
      | exact ih0 _ _
      | exact ih1 _
      | exact ih2 _ _
      | exact galleyref01_Second.mono _ _ _
      | exact LeO.none _
      | refine LeO.ite ?_ ?_
      | refine LeO.bind ?_ (fun _ => ?_)
theorem galleyref01_Begins.mono : ∀ a0 k, LeO (galleyref01_Begins.f k a0) (galleyref01_Begins.f (k + 1) a0) := by
  intro a0 k
  obtain ⟨ih0, ih1, ih2⟩ := galleyref01_Begins.mono_l k
  unfold galleyref01_Begins.f
  repeat' first
      | (with_reducible exact ih0 _ _)
      | (with_reducible exact ih1 _)
      | (with_reducible exact ih2 _ _)
      | (with_reducible exact galleyref01_Second.mono _ _ _)
      | (with_reducible exact LeO.refl _)
      | (with_reducible exact LeO.none _)
      | (with_reducible refine LeO.ite ?_ ?_)
      | (with_reducible refine LeO.bind ?_ (fun _ => ?_))
      | exact ih0 _ _
      | exact ih1 _
      | exact ih2 _ _
      | exact galleyref01_Second.mono _ _ _
      | exact LeO.none _
      | refine LeO.ite ?_ ?_
      | refine LeO.bind ?_ (fun _ => ?_)
set_option maxHeartbeats 8000000 in
set_option maxRecDepth 100000 in
theorem galleyref01_Begins.calls (k : Nat) (A0 : Option Addr) (c0 : Nat) (l0 : List Int) (r : Bool) (w : World) (hr0 : Kd.C (Kd.int .u8) w A0 l0.length l0) (hc0 : l0.length ≤ c0) (h : galleyref01_Begins.f k l0 = some r) :
    Calls Tryd.prog 24 #[.slice A0 l0.length c0] w fun e w' => e = .returned (.bool r) ∧ Drawn0 w w' := by
  have HR0 := Aside0.mk hr0
  have HC0 := Aside0.mk hc0
  clear hr0 hc0
  have H : (if (l0.length : Int) = 0 then (galleyref01_Begins.j0 k l0 true) else (if 0 < (l0.length : Int) then ((galleyref01_Need.f (rd l0 0)).bind fun t137 => (galleyref01_Begins.j0 k l0 (decide ((l0.length : Int) > t137)))) else (none))) = some r := h
  clear h
  have HC2 := Aside0.mk H
  clear H
  go_enter Tryd.func24, Tryd.ntmps24
  go_upto_region 1 with (fail)
  repeat (go_quiet (fail); go_upto_region 1 with (fail))
  go_cut [16] (fun v16 wc => ∃ (kq : Nat) (x16_1 : Bool), v16 = .bool x16_1 ∧ Aside0 (galleyref01_Begins.j0 kq l0 x16_1 = some r) ∧ Aside0 (kq ≤ k) ∧ Drawn0 w wc)
  case first =>
    have H := HC2.out
    clear HC2
    by_cases c3 : (l0.length : Int) = 0
    · rw [if_pos c3] at H
      have c3b0 : ((l0.length : Int) == 0) = true := beq_iff_eq.mpr c3
      have c3b1 : ((l0.length : Int) != 0) = false := bne_eq_false_iff_eq.mpr c3
      clear c3
      (first | rw [c3b0] | (simp only [i64_w, i32_w]; rw [c3b0]) | skip)
      have H' := Aside0.mk H
      clear H
      go_wp2
      repeat (go_quiet (fail); try go_wp2)
      go_meet
      case rel => exact ⟨_, (true), (by first | rfl | (simp; done) | (simp [*]; done)), H', ⟨by first | omega | exact Nat.le_refl _⟩, by repeat (first | exact Drawn0.refl _ | apply Drawn0.step)⟩
    · rw [if_neg c3] at H
      have c3b0 : ((l0.length : Int) == 0) = false := beq_eq_false_iff_ne.mpr c3
      have c3b1 : ((l0.length : Int) != 0) = true := bne_iff_ne.mpr c3
      have c3b2 : ¬ (l0 = []) := fun h_ => c3 (by rw [h_]; rfl)
      (first | rw [c3b0] | (simp only [i64_w, i32_w]; rw [c3b0]) | skip)
      by_cases c4 : 0 < (l0.length : Int)
      · rw [if_pos c4] at H
        have c4b0 : decide (0 < (l0.length : Int)) = true := decide_eq_true c4
        have c4b1 : decide (0 < l0.length) = true := decide_eq_true (by omega)
        clear c4
        replace H := Option.bind_eq_some_iff.mp H
        obtain ⟨t137, A50, H⟩ := H
        replace H : (galleyref01_Begins.j0 k l0 (decide ((l0.length : Int) > t137))) = some r := H
        have A5 := Aside0.mk A50
        clear A50
        have H' := Aside0.mk H
        clear H
        have p136 : 0 ≤ (0 : Int) := (by omega)
        have q136 : 0 < (l0.length : Int) := of_decide_eq_true (by first | (with_reducible assumption) | assumption)
        obtain ⟨ad136, e136, hx136_0⟩ := Kd.at_int HR0.out 0 p136 q136
        cases e136
        have qi136 : (0 < l0.length) = True := eq_true (by omega)
        (try rw [show ((0 : Int)).toNat = 0 from rfl] at hx136_0)
        (try rw [Addr.add_zero'] at hx136_0)
        replace p136 := eq_true p136
        replace q136 := eq_true q136
        go_wp2_with (first | (go_at_call 14; (with_reducible refine (galleyref01_Need.calls (rd l0 0) t137 _ A5.out).mono ?_); rintro e w' ⟨rfl, ⟨nd, rfl⟩⟩; (try first | exact ⟨rfl, _, World.drewN_drewN _ _ _⟩ | exact ⟨rfl, _, Eq.trans (World.drewN_drewN _ _ _) (congrArg (World.drewN _) (Nat.add_assoc _ _ _))⟩)))
        repeat (go_quiet (first | (go_at_call 14; (with_reducible refine (galleyref01_Need.calls (rd l0 0) t137 _ A5.out).mono ?_); rintro e w' ⟨rfl, ⟨nd, rfl⟩⟩; (try first | exact ⟨rfl, _, World.drewN_drewN _ _ _⟩ | exact ⟨rfl, _, Eq.trans (World.drewN_drewN _ _ _) (congrArg (World.drewN _) (Nat.add_assoc _ _ _))⟩))); try go_wp2_with (first | (go_at_call 14; (with_reducible refine (galleyref01_Need.calls (rd l0 0) t137 _ A5.out).mono ?_); rintro e w' ⟨rfl, ⟨nd, rfl⟩⟩; (try first | exact ⟨rfl, _, World.drewN_drewN _ _ _⟩ | exact ⟨rfl, _, Eq.trans (World.drewN_drewN _ _ _) (congrArg (World.drewN _) (Nat.add_assoc _ _ _))⟩))))
        go_meet
        case rel => exact ⟨_, (decide ((l0.length : Int) > t137)), (by first | rfl | (simp; done) | (simp [*]; done)), H', ⟨by first | omega | exact Nat.le_refl _⟩, by repeat (first | exact Drawn0.refl _ | apply Drawn0.step)⟩
      · rw [if_neg c4] at H
        exact absurd H (by simp)
  case rest =>
    clear HC2
    try clear p1
    try clear q1
    try clear hx1
    try clear qi1
    try clear c2
    try clear p2
    try clear c3
    try clear c3b0
    try clear c3b1
    try clear c3b2
    try clear c4
    try clear c4b0
    try clear c4b1
    try clear hx136_0
    try clear p136
    try clear q136
    obtain ⟨kq, x16_1, rfl, HA, HJ1, ⟨mc1, rfl⟩⟩ := hcut
    cases kq with
    | zero => exact absurd HA.out (by simp [galleyref01_Begins.j0])
    | succ kj1 =>
      have H := HA.out
      clear HA
      simp only [galleyref01_Begins.j0] at H
      by_cases c6 : x16_1 = true
      · subst c6
        have H1 : (some false) = some r := by rw [if_pos rfl] at H; exact H
        clear H
        have H := H1
        clear H1
        obtain rfl := Option.some.inj H
        go_wp2
        repeat (go_quiet (fail); try go_wp2)
        go_ret
        exact ⟨by first | rfl | (simp; done) | (simp [*]; done), by repeat (first | exact Drawn0.refl _ | apply Drawn0.step)⟩
      · replace c6 := Bool.eq_false_iff.mpr c6
        subst c6
        have H1 : (if (l0.length : Int) > 1 then (if 0 < (l0.length : Int) then (if 1 < (l0.length : Int) then ((galleyref01_Second.f kj1 (rd l0 0) (rd l0 1)).bind fun t140 => (if t140 = true then (galleyref01_Begins.j1 kj1 l0) else (some false))) else (none)) else (none)) else (galleyref01_Begins.j1 kj1 l0)) = some r := by rw [if_neg (show ¬ (false = true) by decide)] at H; exact H
        clear H
        have H := H1
        clear H1
        have HC7 := Aside0.mk H
        clear H
        go_upto_if 19 with (fail)
        repeat (go_quiet (fail); go_upto_if 19 with (fail))
        go_cut [] (fun wc => ∃ (kq : Nat), Aside0 (galleyref01_Begins.j1 kq l0 = some r) ∧ Aside0 (kq ≤ kj1) ∧ Drawn0 w wc)
        case first =>
          have H := HC7.out
          clear HC7
          by_cases c8 : (l0.length : Int) > 1
          · rw [if_pos c8] at H
            have c8b0 : decide (1 < (l0.length : Int)) = true := decide_eq_true c8
            have c8b1 : decide (1 < l0.length) = true := decide_eq_true (by omega)
            clear c8
            (first | rw [c8b0] | (simp only [i64_w, i32_w]; rw [c8b0]) | skip)
            by_cases c9 : 0 < (l0.length : Int)
            · rw [if_pos c9] at H
              have c9b0 : decide (0 < (l0.length : Int)) = true := decide_eq_true c9
              have c9b1 : decide (0 < l0.length) = true := decide_eq_true (by omega)
              clear c9
              by_cases c10 : 1 < (l0.length : Int)
              · rw [if_pos c10] at H
                have c10b0 : decide (1 < (l0.length : Int)) = true := decide_eq_true c10
                have c10b1 : decide (1 < l0.length) = true := decide_eq_true (by omega)
                clear c10
                replace H := Option.bind_eq_some_iff.mp H
                obtain ⟨t140, A110, H⟩ := H
                replace H : (if t140 = true then (galleyref01_Begins.j1 kj1 l0) else (some false)) = some r := H
                have A11 := Aside0.mk A110
                clear A110
                by_cases c12 : t140 = true
                · subst c12
                  have H1 : (galleyref01_Begins.j1 kj1 l0) = some r := by rw [if_pos rfl] at H; exact H
                  clear H
                  have H := H1
                  clear H1
                  have H' := Aside0.mk H
                  clear H
                  have p138 : 0 ≤ (0 : Int) := (by omega)
                  have q138 : 0 < (l0.length : Int) := of_decide_eq_true (by first | (with_reducible assumption) | assumption)
                  obtain ⟨ad138, e138, hx138_0⟩ := Kd.at_int HR0.out 0 p138 q138
                  cases e138
                  have qi138 : (0 < l0.length) = True := eq_true (by omega)
                  (try rw [show ((0 : Int)).toNat = 0 from rfl] at hx138_0)
                  (try rw [Addr.add_zero'] at hx138_0)
                  replace p138 := eq_true p138
                  replace q138 := eq_true q138
                  have p139 : 0 ≤ (1 : Int) := (by omega)
                  have q139 : 1 < (l0.length : Int) := of_decide_eq_true (by first | (with_reducible assumption) | assumption)
                  obtain ⟨ad139, e139, hx139_0⟩ := Kd.at_int HR0.out 1 p139 q139
                  obtain rfl : ad138 = ad139 := (by injection e139)
                  (try simp only [show (1 : Int).toNat = 1 from rfl, Nat.reduceMul, Nat.reduceEqDiff, Go.Addr.add, ↓reduceIte] at hx139_0)
                  have qi139 : (1 < l0.length) = True := eq_true (by omega)
                  (try rw [show ((1 : Int)).toNat = 1 from rfl] at hx139_0)
                  replace p139 := eq_true p139
                  replace q139 := eq_true q139
                  go_wp2_with (first | (go_at_call 16; (with_reducible refine (galleyref01_Second.calls kj1 (rd l0 0) (rd l0 1) true _ A11.out).mono ?_); rintro e w' ⟨rfl, ⟨nd, rfl⟩⟩; (try first | exact ⟨rfl, _, World.drewN_drewN _ _ _⟩ | exact ⟨rfl, _, Eq.trans (World.drewN_drewN _ _ _) (congrArg (World.drewN _) (Nat.add_assoc _ _ _))⟩)))
                  repeat (go_quiet (first | (go_at_call 16; (with_reducible refine (galleyref01_Second.calls kj1 (rd l0 0) (rd l0 1) true _ A11.out).mono ?_); rintro e w' ⟨rfl, ⟨nd, rfl⟩⟩; (try first | exact ⟨rfl, _, World.drewN_drewN _ _ _⟩ | exact ⟨rfl, _, Eq.trans (World.drewN_drewN _ _ _) (congrArg (World.drewN _) (Nat.add_assoc _ _ _))⟩))); try go_wp2_with (first | (go_at_call 16; (with_reducible refine (galleyref01_Second.calls kj1 (rd l0 0) (rd l0 1) true _ A11.out).mono ?_); rintro e w' ⟨rfl, ⟨nd, rfl⟩⟩; (try first | exact ⟨rfl, _, World.drewN_drewN _ _ _⟩ | exact ⟨rfl, _, Eq.trans (World.drewN_drewN _ _ _) (congrArg (World.drewN _) (Nat.add_assoc _ _ _))⟩))))
                  go_meet
                  case rel => exact ⟨_, H', ⟨by have := HJ1.out; first | omega | exact Nat.le_refl _⟩, by repeat (first | exact Drawn0.refl _ | apply Drawn0.step)⟩
                · replace c12 := Bool.eq_false_iff.mpr c12
                  subst c12
                  have H1 : (some false) = some r := by rw [if_neg (show ¬ (false = true) by decide)] at H; exact H
                  clear H
                  have H := H1
                  clear H1
                  obtain rfl := Option.some.inj H
                  have p138 : 0 ≤ (0 : Int) := (by omega)
                  have q138 : 0 < (l0.length : Int) := of_decide_eq_true (by first | (with_reducible assumption) | assumption)
                  obtain ⟨ad138, e138, hx138_0⟩ := Kd.at_int HR0.out 0 p138 q138
                  cases e138
                  have qi138 : (0 < l0.length) = True := eq_true (by omega)
                  (try rw [show ((0 : Int)).toNat = 0 from rfl] at hx138_0)
                  (try rw [Addr.add_zero'] at hx138_0)
                  replace p138 := eq_true p138
                  replace q138 := eq_true q138
                  have p139 : 0 ≤ (1 : Int) := (by omega)
                  have q139 : 1 < (l0.length : Int) := of_decide_eq_true (by first | (with_reducible assumption) | assumption)
                  obtain ⟨ad139, e139, hx139_0⟩ := Kd.at_int HR0.out 1 p139 q139
                  obtain rfl : ad138 = ad139 := (by injection e139)
                  (try simp only [show (1 : Int).toNat = 1 from rfl, Nat.reduceMul, Nat.reduceEqDiff, Go.Addr.add, ↓reduceIte] at hx139_0)
                  have qi139 : (1 < l0.length) = True := eq_true (by omega)
                  (try rw [show ((1 : Int)).toNat = 1 from rfl] at hx139_0)
                  replace p139 := eq_true p139
                  replace q139 := eq_true q139
                  go_wp2_with (first | (go_at_call 16; (with_reducible refine (galleyref01_Second.calls kj1 (rd l0 0) (rd l0 1) false _ A11.out).mono ?_); rintro e w' ⟨rfl, ⟨nd, rfl⟩⟩; (try first | exact ⟨rfl, _, World.drewN_drewN _ _ _⟩ | exact ⟨rfl, _, Eq.trans (World.drewN_drewN _ _ _) (congrArg (World.drewN _) (Nat.add_assoc _ _ _))⟩)))
                  repeat (go_quiet (first | (go_at_call 16; (with_reducible refine (galleyref01_Second.calls kj1 (rd l0 0) (rd l0 1) false _ A11.out).mono ?_); rintro e w' ⟨rfl, ⟨nd, rfl⟩⟩; (try first | exact ⟨rfl, _, World.drewN_drewN _ _ _⟩ | exact ⟨rfl, _, Eq.trans (World.drewN_drewN _ _ _) (congrArg (World.drewN _) (Nat.add_assoc _ _ _))⟩))); try go_wp2_with (first | (go_at_call 16; (with_reducible refine (galleyref01_Second.calls kj1 (rd l0 0) (rd l0 1) false _ A11.out).mono ?_); rintro e w' ⟨rfl, ⟨nd, rfl⟩⟩; (try first | exact ⟨rfl, _, World.drewN_drewN _ _ _⟩ | exact ⟨rfl, _, Eq.trans (World.drewN_drewN _ _ _) (congrArg (World.drewN _) (Nat.add_assoc _ _ _))⟩))))
                  go_ret
                  exact ⟨by first | rfl | (simp; done) | (simp [*]; done), by repeat (first | exact Drawn0.refl _ | apply Drawn0.step)⟩
              · rw [if_neg c10] at H
                exact absurd H (by simp)
            · rw [if_neg c9] at H
              exact absurd H (by simp)
          · rw [if_neg c8] at H
            have c8b0 : decide (1 < (l0.length : Int)) = false := decide_eq_false c8
            have c8b1 : decide (1 < l0.length) = false := decide_eq_false (by omega)
            clear c8
            (first | rw [c8b0] | (simp only [i64_w, i32_w]; rw [c8b0]) | skip)
            have H' := Aside0.mk H
            clear H
            go_wp2
            repeat (go_quiet (fail); try go_wp2)
            go_meet
            case rel => exact ⟨_, H', ⟨by have := HJ1.out; first | omega | exact Nat.le_refl _⟩, by repeat (first | exact Drawn0.refl _ | apply Drawn0.step)⟩
        case rest =>
          clear HC7
          try clear c1
          try clear p1
          try clear q1
          try clear hx1
          try clear qi1
          try clear c2
          try clear p2
          try clear c3
          try clear c3b0
          try clear c3b1
          try clear c3b2
          try clear c4
          try clear c4b0
          try clear c4b1
          try clear c6
          try clear c8
          try clear c8b0
          try clear c8b1
          try clear c9
          try clear c9b0
          try clear c9b1
          try clear c10
          try clear c10b0
          try clear c10b1
          try clear c12
          try clear hx136_0
          try clear hx138_0
          try clear hx139_0
          try clear p1
          try clear p136
          try clear p138
          try clear p139
          try clear p2
          try clear q1
          try clear q136
          try clear q138
          try clear q139
          obtain ⟨kq, HA, HJ6, ⟨mc6, rfl⟩⟩ := hcut
          cases kq with
          | zero => exact absurd HA.out (by simp [galleyref01_Begins.j1])
          | succ kj6 =>
            have H := HA.out
            clear HA
            simp only [galleyref01_Begins.j1] at H
            have H' := Aside0.mk H
            clear H
            go_wp2
            repeat (go_quiet (fail); try go_wp2)
            go_loopg [4] kj6 (fun kq v4 w' => ∃ (x4_3 : Int), v4 = .int .i64 x4_3 ∧ Aside0 (galleyref01_Begins.l0 kq l0 x4_3 = some r) ∧ Aside0 (kq ≤ kj6) ∧ Drawn0 w w')
            case atStart => exact ⟨(2), (by first | rfl | (simp; done) | (simp [*]; done)), H', ⟨Nat.le_refl _⟩, by repeat (first | exact Drawn0.refl _ | apply Drawn0.step)⟩
            case round =>
              clear H'
              try clear c1
              try clear p1
              try clear q1
              try clear hx1
              try clear qi1
              try clear c2
              try clear p2
              try clear c3
              try clear c3b0
              try clear c3b1
              try clear c3b2
              try clear c4
              try clear c4b0
              try clear c4b1
              try clear c6
              try clear c8
              try clear c8b0
              try clear c8b1
              try clear c9
              try clear c9b0
              try clear c9b1
              try clear c10
              try clear c10b0
              try clear c10b1
              try clear c12
              try clear hx136_0
              try clear hx138_0
              try clear hx139_0
              try clear p1
              try clear p136
              try clear p138
              try clear p139
              try clear p2
              try clear q1
              try clear q136
              try clear q138
              try clear q139
              obtain ⟨x4_3, rfl, HA, HK3, ⟨m3, rfl⟩⟩ := hrel
              cases gk with
              | zero => exact absurd HA.out (by simp [galleyref01_Begins.l0])
              | succ k3 =>
                have H := HA.out
                clear HA
                simp only [galleyref01_Begins.l0] at H
                by_cases c13 : x4_3 < (l0.length : Int)
                · rw [if_pos c13] at H
                  have c13b0 : decide (x4_3 < (l0.length : Int)) = true := decide_eq_true c13
                  clear c13
                  by_cases c14 : 0 ≤ x4_3
                  · rw [if_pos c14] at H
                    have c14b0 : decide (0 ≤ x4_3) = true := decide_eq_true c14
                    clear c14
                    replace H := Option.bind_eq_some_iff.mp H
                    obtain ⟨t142, A150, H⟩ := H
                    replace H : (if t142 = 2 then (galleyref01_Begins.l0 k3 l0 (wrap64 (x4_3 + 1))) else (some false)) = some r := H
                    have A15 := Aside0.mk A150
                    clear A150
                    by_cases c16 : t142 = 2
                    · rw [if_pos c16] at H
                      have c16b0 : (t142 == 2) = true := beq_iff_eq.mpr c16
                      have c16b1 : (t142 != 2) = false := bne_eq_false_iff_eq.mpr c16
                      clear c16
                      have H' := Aside0.mk H
                      clear H
                      have p141 : 0 ≤ (x4_3 : Int) := of_decide_eq_true (by first | (with_reducible assumption) | assumption)
                      have q141 : x4_3 < (l0.length : Int) := of_decide_eq_true (by first | (with_reducible assumption) | assumption)
                      obtain ⟨ad141, e141, hx141_0⟩ := Kd.at_int HR0.out x4_3 p141 q141
                      cases e141
                      replace p141 := eq_true p141
                      replace q141 := eq_true q141
                      go_wp2_with (first | (go_at_call 12; (with_reducible refine (galleyref01_Class.calls (rd l0 x4_3) t142 _ A15.out).mono ?_); rintro e w' ⟨rfl, ⟨nd, rfl⟩⟩; (try first | exact ⟨rfl, _, World.drewN_drewN _ _ _⟩ | exact ⟨rfl, _, Eq.trans (World.drewN_drewN _ _ _) (congrArg (World.drewN _) (Nat.add_assoc _ _ _))⟩)))
                      repeat (go_quiet (first | (go_at_call 12; (with_reducible refine (galleyref01_Class.calls (rd l0 x4_3) t142 _ A15.out).mono ?_); rintro e w' ⟨rfl, ⟨nd, rfl⟩⟩; (try first | exact ⟨rfl, _, World.drewN_drewN _ _ _⟩ | exact ⟨rfl, _, Eq.trans (World.drewN_drewN _ _ _) (congrArg (World.drewN _) (Nat.add_assoc _ _ _))⟩))); try go_wp2_with (first | (go_at_call 12; (with_reducible refine (galleyref01_Class.calls (rd l0 x4_3) t142 _ A15.out).mono ?_); rintro e w' ⟨rfl, ⟨nd, rfl⟩⟩; (try first | exact ⟨rfl, _, World.drewN_drewN _ _ _⟩ | exact ⟨rfl, _, Eq.trans (World.drewN_drewN _ _ _) (congrArg (World.drewN _) (Nat.add_assoc _ _ _))⟩))))
                      go_roundg k3
                      case measure => have := HJ1.out; have := HJ6.out; have := HK3.out; omega
                      case rel => exact ⟨(wrap64 (x4_3 + 1)), (by first | rfl | (simp; done) | (simp [*]; done)), H', ⟨by have := HJ1.out; have := HJ6.out; have := HK3.out; omega⟩, by repeat (first | exact Drawn0.refl _ | apply Drawn0.step)⟩
                    · rw [if_neg c16] at H
                      have c16b0 : (t142 == 2) = false := beq_eq_false_iff_ne.mpr c16
                      have c16b1 : (t142 != 2) = true := bne_iff_ne.mpr c16
                      obtain rfl := Option.some.inj H
                      have p141 : 0 ≤ (x4_3 : Int) := of_decide_eq_true (by first | (with_reducible assumption) | assumption)
                      have q141 : x4_3 < (l0.length : Int) := of_decide_eq_true (by first | (with_reducible assumption) | assumption)
                      obtain ⟨ad141, e141, hx141_0⟩ := Kd.at_int HR0.out x4_3 p141 q141
                      cases e141
                      replace p141 := eq_true p141
                      replace q141 := eq_true q141
                      go_wp2_with (first | (go_at_call 12; (with_reducible refine (galleyref01_Class.calls (rd l0 x4_3) t142 _ A15.out).mono ?_); rintro e w' ⟨rfl, ⟨nd, rfl⟩⟩; (try first | exact ⟨rfl, _, World.drewN_drewN _ _ _⟩ | exact ⟨rfl, _, Eq.trans (World.drewN_drewN _ _ _) (congrArg (World.drewN _) (Nat.add_assoc _ _ _))⟩)))
                      repeat (go_quiet (first | (go_at_call 12; (with_reducible refine (galleyref01_Class.calls (rd l0 x4_3) t142 _ A15.out).mono ?_); rintro e w' ⟨rfl, ⟨nd, rfl⟩⟩; (try first | exact ⟨rfl, _, World.drewN_drewN _ _ _⟩ | exact ⟨rfl, _, Eq.trans (World.drewN_drewN _ _ _) (congrArg (World.drewN _) (Nat.add_assoc _ _ _))⟩))); try go_wp2_with (first | (go_at_call 12; (with_reducible refine (galleyref01_Class.calls (rd l0 x4_3) t142 _ A15.out).mono ?_); rintro e w' ⟨rfl, ⟨nd, rfl⟩⟩; (try first | exact ⟨rfl, _, World.drewN_drewN _ _ _⟩ | exact ⟨rfl, _, Eq.trans (World.drewN_drewN _ _ _) (congrArg (World.drewN _) (Nat.add_assoc _ _ _))⟩))))
                      go_ret
                      exact ⟨by first | rfl | (simp; done) | (simp [*]; done), by repeat (first | exact Drawn0.refl _ | apply Drawn0.step)⟩
                  · rw [if_neg c14] at H
                    exact absurd H (by simp)
                · rw [if_neg c13] at H
                  have c13b0 : decide (x4_3 < (l0.length : Int)) = false := decide_eq_false c13
                  clear c13
                  obtain rfl := Option.some.inj H
                  go_wp2
                  repeat (go_quiet (fail); try go_wp2)
                  go_ret
                  exact ⟨by first | rfl | (simp; done) | (simp [*]; done), by repeat (first | exact Drawn0.refl _ | apply Drawn0.step)⟩

/-! ### galleyref01_Whole: function 18 -/
def galleyref01_Whole.f (k : Nat) (l0 : List Int) : Option (Bool) := (galleyref01_Begins.f k l0).bind fun t143 => (if t143 = true then (if 0 < (l0.length : Int) then ((galleyref01_Need.f (rd l0 0)).bind fun t145 => (some ((l0.length : Int) == t145))) else (none)) else (some false))
theorem galleyref01_Whole.mono : ∀ a0 k, LeO (galleyref01_Whole.f k a0) (galleyref01_Whole.f (k + 1) a0) := by
  intro a0 k
  unfold galleyref01_Whole.f
  repeat' first
      | (with_reducible exact galleyref01_Begins.mono _ _)
      | (with_reducible exact LeO.refl _)
      | (with_reducible exact LeO.none _)
      | (with_reducible refine LeO.ite ?_ ?_)
      | (with_reducible refine LeO.bind ?_ (fun _ => ?_))
      | exact galleyref01_Begins.mono _ _
      | exact LeO.none _
      | refine LeO.ite ?_ ?_
      | refine LeO.bind ?_ (fun _ => ?_)
set_option maxHeartbeats 8000000 in
set_option maxRecDepth 100000 in
theorem galleyref01_Whole.calls (k : Nat) (A0 : Option Addr) (c0 : Nat) (l0 : List Int) (r : Bool) (w : World) (hr0 : Kd.C (Kd.int .u8) w A0 l0.length l0) (hc0 : l0.length ≤ c0) (h : galleyref01_Whole.f k l0 = some r) :
    Calls Tryd.prog 18 #[.slice A0 l0.length c0] w fun e w' => e = .returned (.bool r) ∧ Drawn0 w w' := by
  have HR0 := Aside0.mk hr0
  have HC0 := Aside0.mk hc0
  clear hr0 hc0
  have H : ((galleyref01_Begins.f k l0).bind fun t143 => (if t143 = true then (if 0 < (l0.length : Int) then ((galleyref01_Need.f (rd l0 0)).bind fun t145 => (some ((l0.length : Int) == t145))) else (none)) else (some false))) = some r := h
  clear h
  replace H := Option.bind_eq_some_iff.mp H
  obtain ⟨t143, A20, H⟩ := H
  replace H : (if t143 = true then (if 0 < (l0.length : Int) then ((galleyref01_Need.f (rd l0 0)).bind fun t145 => (some ((l0.length : Int) == t145))) else (none)) else (some false)) = some r := H
  have A2 := Aside0.mk A20
  clear A20
  by_cases c3 : t143 = true
  · subst c3
    have H1 : (if 0 < (l0.length : Int) then ((galleyref01_Need.f (rd l0 0)).bind fun t145 => (some ((l0.length : Int) == t145))) else (none)) = some r := by rw [if_pos rfl] at H; exact H
    clear H
    have H := H1
    clear H1
    by_cases c4 : 0 < (l0.length : Int)
    · rw [if_pos c4] at H
      have c4b0 : decide (0 < (l0.length : Int)) = true := decide_eq_true c4
      have c4b1 : decide (0 < l0.length) = true := decide_eq_true (by omega)
      clear c4
      replace H := Option.bind_eq_some_iff.mp H
      obtain ⟨t145, A50, H⟩ := H
      replace H : (some ((l0.length : Int) == t145)) = some r := H
      have A5 := Aside0.mk A50
      clear A50
      obtain rfl := Option.some.inj H
      go_enter Tryd.func18, Tryd.ntmps18
      go_wp2_with (first | ((with_reducible refine gate_callee (f := 24) rfl ?_); refine goesL_ (some 4) rfl rfl Tryd.func24 (by kernel_rfl) rfl #[.slice A0 l0.length c0] rfl (by (try simp only [List.map_toArray, List.map_cons, List.map_nil]); first | done | rfl | (simp only [List.length_drop, List.length_take]; rfl)) ?_; (with_reducible refine (galleyref01_Begins.calls k _ _ l0 true _ ?side1 ?side2 A2.out).mono ?_); (case side1 => repeat (first | exact HR0.out | (with_reducible refine Kd.C_alloc ?_ _) | (with_reducible refine Kd.C_drewN ?_ _) | (with_reducible refine Kd.C_drew ?_))); (case side2 => exact HC0.out); rintro e w' ⟨rfl, ⟨nd, rfl⟩⟩; refine ⟨_, rfl, ?_⟩; have p144 : 0 ≤ (0 : Int) := (by omega); have q144 : 0 < (l0.length : Int) := of_decide_eq_true (by first | (with_reducible assumption) | assumption); obtain ⟨ad144, e144, hx144_0⟩ := Kd.at_int HR0.out 0 p144 q144; cases e144; have qi144 : (0 < l0.length) = True := eq_true (by omega); (try rw [show ((0 : Int)).toNat = 0 from rfl] at hx144_0); (try rw [Addr.add_zero'] at hx144_0); replace p144 := eq_true p144; replace q144 := eq_true q144) | (go_at_call 14; (with_reducible refine (galleyref01_Need.calls (rd l0 0) t145 _ A5.out).mono ?_); rintro e w' ⟨rfl, ⟨nd, rfl⟩⟩))
      go_ret
      exact ⟨by first | rfl | (simp; done) | (simp [*]; done), by repeat (first | exact Drawn0.refl _ | apply Drawn0.step)⟩
    · rw [if_neg c4] at H
      exact absurd H (by simp)
  · replace c3 := Bool.eq_false_iff.mpr c3
    subst c3
    have H1 : (some false) = some r := by rw [if_neg (show ¬ (false = true) by decide)] at H; exact H
    clear H
    have H := H1
    clear H1
    obtain rfl := Option.some.inj H
    go_enter Tryd.func18, Tryd.ntmps18
    go_wp2_with (first | ((with_reducible refine gate_callee (f := 24) rfl ?_); refine goesL_ (some 4) rfl rfl Tryd.func24 (by kernel_rfl) rfl #[.slice A0 l0.length c0] rfl (by (try simp only [List.map_toArray, List.map_cons, List.map_nil]); first | done | rfl | (simp only [List.length_drop, List.length_take]; rfl)) ?_; (with_reducible refine (galleyref01_Begins.calls k _ _ l0 false _ ?side1 ?side2 A2.out).mono ?_); (case side1 => repeat (first | exact HR0.out | (with_reducible refine Kd.C_alloc ?_ _) | (with_reducible refine Kd.C_drewN ?_ _) | (with_reducible refine Kd.C_drew ?_))); (case side2 => exact HC0.out); rintro e w' ⟨rfl, ⟨nd, rfl⟩⟩; refine ⟨_, rfl, ?_⟩))
    go_ret
    exact ⟨by first | rfl | (simp; done) | (simp [*]; done), by repeat (first | exact Drawn0.refl _ | apply Drawn0.step)⟩

/-! ### galleyref01_Value: function 20 -/
mutual
def galleyref01_Value.j0 : Nat → List Int → Int → Option (Int)
  | 0, _, _ => none
  | k + 1, x0, x4 => galleyref01_Value.l0 k x0 x4 1
def galleyref01_Value.l0 : Nat → List Int → Int → Int → Option (Int)
  | 0, _, _, _ => none
  | k + 1, x0, x4, x5 => if x5 < (x0.length : Int) then (if 0 ≤ x5 then (galleyref01_Value.l0 k x0 (wrap64 ((wrap64 (x4 * 64)) + (Int.tmod (wrap64 (rd x0 x5)) 64))) (wrap64 (x5 + 1))) else (none)) else (some (wrap32 (x4)))
end
def galleyref01_Value.f (k : Nat) (l0 : List Int) : Option (Int) := (galleyref01_Whole.f k l0).bind fun t146 => (if t146 = true then (if 0 < (l0.length : Int) then (if (l0.length : Int) = 2 then (galleyref01_Value.j0 k l0 (Int.tmod (wrap64 (rd l0 0)) 32)) else (if (l0.length : Int) = 3 then (galleyref01_Value.j0 k l0 (Int.tmod (wrap64 (rd l0 0)) 16)) else (if (l0.length : Int) = 4 then (galleyref01_Value.j0 k l0 (Int.tmod (wrap64 (rd l0 0)) 8)) else (galleyref01_Value.j0 k l0 (wrap64 (rd l0 0)))))) else (none)) else (some (-1)))
theorem galleyref01_Value.mono_l : ∀ k, (∀ y0 y1, LeO (galleyref01_Value.j0 k y0 y1) (galleyref01_Value.j0 (k + 1) y0 y1)) ∧ (∀ y0 y1 y2, LeO (galleyref01_Value.l0 k y0 y1 y2) (galleyref01_Value.l0 (k + 1) y0 y1 y2))
  | 0 => ⟨fun _ _ r h => by simp [galleyref01_Value.j0] at h, fun _ _ _ r h => by simp [galleyref01_Value.l0] at h⟩
  | k + 1 => by
    obtain ⟨ih0, ih1⟩ := galleyref01_Value.mono_l k
    refine ⟨?_, ?_⟩
    · intro y0 y1
      unfold galleyref01_Value.j0
      repeat' first
      | (with_reducible exact ih0 _ _)
      | (with_reducible exact ih1 _ _ _)
      | (with_reducible exact galleyref01_Whole.mono _ _)
      | (with_reducible exact LeO.refl _)
      | (with_reducible exact LeO.none _)
      | (with_reducible refine LeO.ite ?_ ?_)
      | (with_reducible refine LeO.bind ?_ (fun _ => ?_))
      | exact ih0 _ _
      | exact ih1 _ _ _
      | exact galleyref01_Whole.mono _ _
      | exact LeO.none _
      | refine LeO.ite ?_ ?_
      | refine LeO.bind ?_ (fun _ => ?_)
    · intro y0 y1 y2
      unfold galleyref01_Value.l0
      repeat' first
      | (with_reducible exact ih0 _ _)
      | (with_reducible exact ih1 _ _ _)
      | (with_reducible exact galleyref01_Whole.mono _ _)
      | (with_reducible exact LeO.refl _)
      | (with_reducible exact LeO.none _)
      | (with_reducible refine LeO.ite ?_ ?_)
      | (with_reducible refine LeO.bind ?_ (fun _ => ?_))
      | exact ih0 _ _
      | exact ih1 _ _ _
      | exact galleyref01_Whole.mono _ _
      | exact LeO.none _
      | refine LeO.ite ?_ ?_
      | refine LeO.bind ?_ (fun _ => ?_)
theorem galleyref01_Value.mono : ∀ a0 k, LeO (galleyref01_Value.f k a0) (galleyref01_Value.f (k + 1) a0) := by
  intro a0 k
  obtain ⟨ih0, ih1⟩ := galleyref01_Value.mono_l k
  unfold galleyref01_Value.f
  repeat' first
      | (with_reducible exact ih0 _ _)
      | (with_reducible exact ih1 _ _ _)
      | (with_reducible exact galleyref01_Whole.mono _ _)
      | (with_reducible exact LeO.refl _)
      | (with_reducible exact LeO.none _)
      | (with_reducible refine LeO.ite ?_ ?_)
      | (with_reducible refine LeO.bind ?_ (fun _ => ?_))
      | exact ih0 _ _
      | exact ih1 _ _ _
      | exact galleyref01_Whole.mono _ _
      | exact LeO.none _
      | refine LeO.ite ?_ ?_
      | refine LeO.bind ?_ (fun _ => ?_)
set_option maxHeartbeats 8000000 in
set_option maxRecDepth 100000 in
theorem galleyref01_Value.calls (k : Nat) (A0 : Option Addr) (c0 : Nat) (l0 : List Int) (r : Int) (w : World) (hr0 : Kd.C (Kd.int .u8) w A0 l0.length l0) (hc0 : l0.length ≤ c0) (h : galleyref01_Value.f k l0 = some r) :
    Calls Tryd.prog 20 #[.slice A0 l0.length c0] w fun e w' => e = .returned (.int .i32 r) ∧ Drawn0 w w' := by
  have HR0 := Aside0.mk hr0
  have HC0 := Aside0.mk hc0
  clear hr0 hc0
  have H : ((galleyref01_Whole.f k l0).bind fun t146 => (if t146 = true then (if 0 < (l0.length : Int) then (if (l0.length : Int) = 2 then (galleyref01_Value.j0 k l0 (Int.tmod (wrap64 (rd l0 0)) 32)) else (if (l0.length : Int) = 3 then (galleyref01_Value.j0 k l0 (Int.tmod (wrap64 (rd l0 0)) 16)) else (if (l0.length : Int) = 4 then (galleyref01_Value.j0 k l0 (Int.tmod (wrap64 (rd l0 0)) 8)) else (galleyref01_Value.j0 k l0 (wrap64 (rd l0 0)))))) else (none)) else (some (-1)))) = some r := h
  clear h
  replace H := Option.bind_eq_some_iff.mp H
  obtain ⟨t146, A20, H⟩ := H
  replace H : (if t146 = true then (if 0 < (l0.length : Int) then (if (l0.length : Int) = 2 then (galleyref01_Value.j0 k l0 (Int.tmod (wrap64 (rd l0 0)) 32)) else (if (l0.length : Int) = 3 then (galleyref01_Value.j0 k l0 (Int.tmod (wrap64 (rd l0 0)) 16)) else (if (l0.length : Int) = 4 then (galleyref01_Value.j0 k l0 (Int.tmod (wrap64 (rd l0 0)) 8)) else (galleyref01_Value.j0 k l0 (wrap64 (rd l0 0)))))) else (none)) else (some (-1))) = some r := H
  have A2 := Aside0.mk A20
  clear A20
  by_cases c3 : t146 = true
  · subst c3
    have H1 : (if 0 < (l0.length : Int) then (if (l0.length : Int) = 2 then (galleyref01_Value.j0 k l0 (Int.tmod (wrap64 (rd l0 0)) 32)) else (if (l0.length : Int) = 3 then (galleyref01_Value.j0 k l0 (Int.tmod (wrap64 (rd l0 0)) 16)) else (if (l0.length : Int) = 4 then (galleyref01_Value.j0 k l0 (Int.tmod (wrap64 (rd l0 0)) 8)) else (galleyref01_Value.j0 k l0 (wrap64 (rd l0 0)))))) else (none)) = some r := by rw [if_pos rfl] at H; exact H
    clear H
    have H := H1
    clear H1
    by_cases c4 : 0 < (l0.length : Int)
    · rw [if_pos c4] at H
      have c4b0 : decide (0 < (l0.length : Int)) = true := decide_eq_true c4
      have c4b1 : decide (0 < l0.length) = true := decide_eq_true (by omega)
      clear c4
      have HC5 := Aside0.mk H
      clear H
      go_enter Tryd.func20, Tryd.ntmps20
      go_upto_block 0 with (first | ((with_reducible refine gate_callee (f := 18) rfl ?_); refine goesL_ (some 7) rfl rfl Tryd.func18 (by kernel_rfl) rfl #[.slice A0 l0.length c0] rfl (by (try simp only [List.map_toArray, List.map_cons, List.map_nil]); first | done | rfl | (simp only [List.length_drop, List.length_take]; rfl)) ?_; (with_reducible refine (galleyref01_Whole.calls k _ _ l0 true _ ?side1 ?side2 A2.out).mono ?_); (case side1 => repeat (first | exact HR0.out | (with_reducible refine Kd.C_alloc ?_ _) | (with_reducible refine Kd.C_drewN ?_ _) | (with_reducible refine Kd.C_drew ?_))); (case side2 => exact HC0.out); rintro e w' ⟨rfl, ⟨nd, rfl⟩⟩; refine ⟨_, rfl, ?_⟩; have p147 : 0 ≤ (0 : Int) := (by omega); have q147 : 0 < (l0.length : Int) := of_decide_eq_true (by first | (with_reducible assumption) | assumption); obtain ⟨ad147, e147, hx147_0⟩ := Kd.at_int HR0.out 0 p147 q147; cases e147; have qi147 : (0 < l0.length) = True := eq_true (by omega); (try rw [show ((0 : Int)).toNat = 0 from rfl] at hx147_0); (try rw [Addr.add_zero'] at hx147_0); replace p147 := eq_true p147; replace q147 := eq_true q147))
      (try simp only [Act.put, List.setIfInBounds_toArray, List.set_cons_zero, List.set_cons_succ])
      go_cut [4] (fun v4 wc => ∃ (kq : Nat) (x4_4 : Int), v4 = .int .i64 x4_4 ∧ Aside0 (galleyref01_Value.j0 kq l0 x4_4 = some r) ∧ Aside0 (kq ≤ k) ∧ Drawn0 w wc)
      case first =>
        have H := HC5.out
        clear HC5
        by_cases c6 : (l0.length : Int) = 2
        · rw [if_pos c6] at H
          have c6b0 : ((l0.length : Int) == 2) = true := beq_iff_eq.mpr c6
          have c6b1 : ((l0.length : Int) != 2) = false := bne_eq_false_iff_eq.mpr c6
          clear c6
          (first | rw [c6b0] | (simp only [i64_w, i32_w]; rw [c6b0]) | skip)
          have H' := Aside0.mk H
          clear H
          go_wp2
          go_meet
          case rel => exact ⟨_, (Int.tmod (wrap64 (rd l0 0)) 32), (by first | rfl | (simp; done) | (simp [*]; done)), H', ⟨by first | omega | exact Nat.le_refl _⟩, by repeat (first | exact Drawn0.refl _ | apply Drawn0.step)⟩
        · rw [if_neg c6] at H
          have c6b0 : ((l0.length : Int) == 2) = false := beq_eq_false_iff_ne.mpr c6
          have c6b1 : ((l0.length : Int) != 2) = true := bne_iff_ne.mpr c6
          (first | rw [c6b0] | (simp only [i64_w, i32_w]; rw [c6b0]) | skip)
          by_cases c7 : (l0.length : Int) = 3
          · rw [if_pos c7] at H
            have c7b0 : ((l0.length : Int) == 3) = true := beq_iff_eq.mpr c7
            have c7b1 : ((l0.length : Int) != 3) = false := bne_eq_false_iff_eq.mpr c7
            clear c7
            have H' := Aside0.mk H
            clear H
            go_wp2
            go_meet
            case rel => exact ⟨_, (Int.tmod (wrap64 (rd l0 0)) 16), (by first | rfl | (simp; done) | (simp [*]; done)), H', ⟨by first | omega | exact Nat.le_refl _⟩, by repeat (first | exact Drawn0.refl _ | apply Drawn0.step)⟩
          · rw [if_neg c7] at H
            have c7b0 : ((l0.length : Int) == 3) = false := beq_eq_false_iff_ne.mpr c7
            have c7b1 : ((l0.length : Int) != 3) = true := bne_iff_ne.mpr c7
            by_cases c8 : (l0.length : Int) = 4
            · rw [if_pos c8] at H
              have c8b0 : ((l0.length : Int) == 4) = true := beq_iff_eq.mpr c8
              have c8b1 : ((l0.length : Int) != 4) = false := bne_eq_false_iff_eq.mpr c8
              clear c8
              have H' := Aside0.mk H
              clear H
              go_wp2
              go_meet
              case rel => exact ⟨_, (Int.tmod (wrap64 (rd l0 0)) 8), (by first | rfl | (simp; done) | (simp [*]; done)), H', ⟨by first | omega | exact Nat.le_refl _⟩, by repeat (first | exact Drawn0.refl _ | apply Drawn0.step)⟩
            · rw [if_neg c8] at H
              have c8b0 : ((l0.length : Int) == 4) = false := beq_eq_false_iff_ne.mpr c8
              have c8b1 : ((l0.length : Int) != 4) = true := bne_iff_ne.mpr c8
              have H' := Aside0.mk H
              clear H
              go_wp2
              go_meet
              case rel => exact ⟨_, (wrap64 (rd l0 0)), (by first | rfl | (simp; done) | (simp [*]; done)), H', ⟨by first | omega | exact Nat.le_refl _⟩, by repeat (first | exact Drawn0.refl _ | apply Drawn0.step)⟩
      case rest =>
        clear HC5
        try clear c1
        try clear p1
        try clear q1
        try clear hx1
        try clear qi1
        try clear c2
        try clear p2
        try clear c3
        try clear c4
        try clear c4b0
        try clear c4b1
        try clear c6
        try clear c6b0
        try clear c6b1
        try clear p6
        try clear c7
        try clear c7b0
        try clear c7b1
        try clear c8
        try clear c8b0
        try clear c8b1
        try clear hx147_0
        try clear p147
        try clear q147
        obtain ⟨kq, x4_4, rfl, HA, HJ4, ⟨mc4, rfl⟩⟩ := hcut
        cases kq with
        | zero => exact absurd HA.out (by simp [galleyref01_Value.j0])
        | succ kj4 =>
          have H := HA.out
          clear HA
          simp only [galleyref01_Value.j0] at H
          have H' := Aside0.mk H
          clear H
          go_wp2
          go_loopg [4, 5] kj4 (fun kq v4 v5 w' => ∃ (x4_2 : Int) (x5_2 : Int), v4 = .int .i64 x4_2 ∧ v5 = .int .i64 x5_2 ∧ Aside0 (galleyref01_Value.l0 kq l0 x4_2 x5_2 = some r) ∧ Aside0 (kq ≤ kj4) ∧ Drawn0 w w')
          case atStart => exact ⟨(x4_4), (1), (by first | rfl | (simp; done) | (simp [*]; done)), (by first | rfl | (simp; done) | (simp [*]; done)), H', ⟨Nat.le_refl _⟩, by repeat (first | exact Drawn0.refl _ | apply Drawn0.step)⟩
          case round =>
            clear H'
            try clear c1
            try clear p1
            try clear q1
            try clear hx1
            try clear qi1
            try clear c2
            try clear p2
            try clear c3
            try clear c4
            try clear c4b0
            try clear c4b1
            try clear c6
            try clear c6b0
            try clear c6b1
            try clear p6
            try clear c7
            try clear c7b0
            try clear c7b1
            try clear c8
            try clear c8b0
            try clear c8b1
            try clear hx147_0
            try clear p1
            try clear p147
            try clear p2
            try clear p6
            try clear q1
            try clear q147
            obtain ⟨x4_2, x5_2, rfl, rfl, HA, HK2, ⟨m2, rfl⟩⟩ := hrel
            cases gk with
            | zero => exact absurd HA.out (by simp [galleyref01_Value.l0])
            | succ k2 =>
              have H := HA.out
              clear HA
              simp only [galleyref01_Value.l0] at H
              by_cases c9 : x5_2 < (l0.length : Int)
              · rw [if_pos c9] at H
                have c9b0 : decide (x5_2 < (l0.length : Int)) = true := decide_eq_true c9
                clear c9
                by_cases c10 : 0 ≤ x5_2
                · rw [if_pos c10] at H
                  have c10b0 : decide (0 ≤ x5_2) = true := decide_eq_true c10
                  clear c10
                  have H' := Aside0.mk H
                  clear H
                  have p148 : 0 ≤ (x5_2 : Int) := of_decide_eq_true (by first | (with_reducible assumption) | assumption)
                  have q148 : x5_2 < (l0.length : Int) := of_decide_eq_true (by first | (with_reducible assumption) | assumption)
                  obtain ⟨ad148, e148, hx148_0⟩ := Kd.at_int HR0.out x5_2 p148 q148
                  obtain rfl : ad147 = ad148 := (by injection e148)
                  replace p148 := eq_true p148
                  replace q148 := eq_true q148
                  go_wp2
                  go_roundg k2
                  case measure => have := HJ4.out; have := HK2.out; omega
                  case rel => exact ⟨(wrap64 ((wrap64 (x4_2 * 64)) + (Int.tmod (wrap64 (rd l0 x5_2)) 64))), (wrap64 (x5_2 + 1)), (by first | rfl | (simp; done) | (simp [*]; done)), (by first | rfl | (simp; done) | (simp [*]; done)), H', ⟨by have := HJ4.out; have := HK2.out; omega⟩, by repeat (first | exact Drawn0.refl _ | apply Drawn0.step)⟩
                · rw [if_neg c10] at H
                  exact absurd H (by simp)
              · rw [if_neg c9] at H
                have c9b0 : decide (x5_2 < (l0.length : Int)) = false := decide_eq_false c9
                clear c9
                obtain rfl := Option.some.inj H
                go_wp2
                go_ret
                exact ⟨by first | rfl | (simp; done) | (simp [*]; done), by repeat (first | exact Drawn0.refl _ | apply Drawn0.step)⟩
    · rw [if_neg c4] at H
      exact absurd H (by simp)
  · replace c3 := Bool.eq_false_iff.mpr c3
    subst c3
    have H1 : (some (-1)) = some r := by rw [if_neg (show ¬ (false = true) by decide)] at H; exact H
    clear H
    have H := H1
    clear H1
    obtain rfl := Option.some.inj H
    go_enter Tryd.func20, Tryd.ntmps20
    go_wp2_with (first | ((with_reducible refine gate_callee (f := 18) rfl ?_); refine goesL_ (some 7) rfl rfl Tryd.func18 (by kernel_rfl) rfl #[.slice A0 l0.length c0] rfl (by (try simp only [List.map_toArray, List.map_cons, List.map_nil]); first | done | rfl | (simp only [List.length_drop, List.length_take]; rfl)) ?_; (with_reducible refine (galleyref01_Whole.calls k _ _ l0 false _ ?side1 ?side2 A2.out).mono ?_); (case side1 => repeat (first | exact HR0.out | (with_reducible refine Kd.C_alloc ?_ _) | (with_reducible refine Kd.C_drewN ?_ _) | (with_reducible refine Kd.C_drew ?_))); (case side2 => exact HC0.out); rintro e w' ⟨rfl, ⟨nd, rfl⟩⟩; refine ⟨_, rfl, ?_⟩))
    go_ret
    exact ⟨by first | rfl | (simp; done) | (simp [*]; done), by repeat (first | exact Drawn0.refl _ | apply Drawn0.step)⟩

end Go.Proofs.YtbbccljelfjnkaaDoor.Pr
