/- Part 3 of the lemmas on which the card leafCuts_card stands (its sentence and conditions stand in the last text). Conditions: as each lemma says. -/
import Derived.Test.YteoonhidjldnfaaDoorKCuts2
namespace Go.Proofs.YteoonhidjldnfaaDoor.Ev
open Go.RowKit Go.Proofs.YteoonhidjldnfaaDoor.Pr Go.Proofs.YteoonhidjldnfaaDoor.Math Go.Proofs.YteoonhidjldnfaaDoorW.PrintWords Go.Proofs.YteoonhidjldnfaaDoorW.PrintLast
set_option linter.unusedVariables false
set_option linter.unusedSimpArgs false
theorem o_Class (b : Int) (h : 0 ≤ b ∧ b ≤ 255) : octet_Class.f b = some (cls b) := by unfold octet_Class.f; rw [if_pos h]; rfl
theorem o_Need (b : Int) (h : 0 ≤ b ∧ b ≤ 255) : octet_Need.f b = some (need b) := by unfold octet_Need.f; rw [if_pos h]; rfl
theorem o_second (a : Int) (h : 0 ≤ a ∧ a ≤ 255) : octet_second.f a = some (if a = 224 then (160, 191) else if a = 237 then (128, 159) else if a = 240 then (144, 191) else if a = 244 then (128, 143) else if need a > 1 then (128, 191) else (1, 0)) := by
  unfold octet_second.f
  rw [o_Need a h]
  simp only [Option.bind_some]
  (repeat' split) <;> rfl
theorem o_Second (a b : Int) (h : 0 ≤ a ∧ a ≤ 255) : octet_Second.f a b = some (sec a b) := by
  unfold octet_Second.f
  rw [o_second a h]
  simp only [Option.bind_some]
  unfold sec
  (repeat' split) <;> simp_all <;> omega
theorem o_Whole (k : Nat) (l : List Int) (h : Byt l) : octet_Whole.f (k + 9) l = some (whole l) := by
  unfold octet_Whole.f
  match l, h with
  | [], _ => simp [octet_Whole.j0, whole]
  | [x0], h =>
    have b0 := h x0 (by simp)
    simp only [rd, List.length_cons, List.length_nil, Int.toNat_zero, List.getD_cons_zero]
    rw [if_neg (by simp), if_pos (by simp), o_Need x0 b0]
    simp only [Option.bind_some, octet_Whole.j0, drop1, whole]
    by_cases hn : need x0 = 1
    · simp [hn, octet_Whole.l0]
    · simp [hn]
  | [x0, x1], h =>
    have b0 := h x0 (by simp)
    have b1 := h x1 (by simp)
    simp only [rd, List.length_cons, List.length_nil, Int.toNat_zero, List.getD_cons_zero]
    rw [if_neg (by simp), if_pos (by simp), o_Need x0 b0]
    simp only [Option.bind_some, octet_Whole.j0, drop1, whole]
    by_cases hn : need x0 = 2
    · have st := @sec_tail x0 x1
      simp [hn, octet_Whole.l0, rd, o_Second x0 x1 b0, o_Class x1 b1, cls_two x1 b1.1 b1.2, wrap64_in', tl]
      (repeat' split) <;> simp_all
    · simp [hn]
  | [x0, x1, x2], h =>
    have b0 := h x0 (by simp)
    have b1 := h x1 (by simp)
    have b2 := h x2 (by simp)
    simp only [rd, List.length_cons, List.length_nil, Int.toNat_zero, List.getD_cons_zero]
    rw [if_neg (by simp), if_pos (by simp), o_Need x0 b0]
    simp only [Option.bind_some, octet_Whole.j0, drop1, whole]
    by_cases hn : need x0 = 3
    · have st := @sec_tail x0 x1
      simp [hn, octet_Whole.l0, rd, o_Second x0 x1 b0, o_Class x1 b1, cls_two x1 b1.1 b1.2, o_Class x2 b2, cls_two x2 b2.1 b2.2, wrap64_in', tl]
      (repeat' split) <;> simp_all
    · simp [hn]
  | [x0, x1, x2, x3], h =>
    have b0 := h x0 (by simp)
    have b1 := h x1 (by simp)
    have b2 := h x2 (by simp)
    have b3 := h x3 (by simp)
    simp only [rd, List.length_cons, List.length_nil, Int.toNat_zero, List.getD_cons_zero]
    rw [if_neg (by simp), if_pos (by simp), o_Need x0 b0]
    simp only [Option.bind_some, octet_Whole.j0, drop1, whole]
    by_cases hn : need x0 = 4
    · have st := @sec_tail x0 x1
      simp [hn, octet_Whole.l0, rd, o_Second x0 x1 b0, o_Class x1 b1, cls_two x1 b1.1 b1.2, o_Class x2 b2, cls_two x2 b2.1 b2.2, o_Class x3 b3, cls_two x3 b3.1 b3.2, wrap64_in', tl]
      cases hs : sec x0 x1 <;> by_cases h2 : 128 ≤ x2 <;> by_cases h2' : x2 ≤ 191 <;> by_cases h3 : 128 ≤ x3 <;> by_cases h3' : x3 ≤ 191 <;> simp_all <;> split <;> simp_all <;> omega
    · simp [hn]
  | x0 :: x1 :: x2 :: x3 :: x4 :: r, h =>
    have b0 := h x0 (by simp)
    have hl := need_le x0
    simp only [rd, List.length_cons, Int.toNat_zero, List.getD_cons_zero]
    rw [if_neg (by omega), if_pos (by omega), o_Need x0 b0]
    simp only [Option.bind_some, octet_Whole.j0, whole]
    rw [if_pos (by rw [bne_iff_ne]; omega)]
theorem u8_and127 {x : Int} (h₀ : 0 ≤ x) (h₁ : x < 256) : bits .and .u8 x 127 = x % 128 := bits_mask .u8 8 (by decide) wraps_u8 7 (by decide) x h₀ h₁
theorem head_eq {x m n : Int} (h : bits .and .u8 x m = n) (h0 : 0 ≤ n) (h1 : n < 256) : headV x m = n := by unfold headV; rw [h]; exact wrap32_in' (by omega) (by omega)
theorem step_eq {z c : Int} (h0 : 0 ≤ z) (h1 : z < 32768) (hc : 0 ≤ c ∧ c ≤ 255) : stepV z c = z * 64 + c % 64 := by
  unfold stepV
  rw [u8_and63 _ hc.1 (by omega), wrap32_in' (by omega) (by omega), wrap32_in' (by omega) (by omega), i32_or6 _ _ (by omega) (by omega) (by omega) (by omega) (by omega)]
theorem valL_eq (l : List Int) (h : Byt l) (hw : whole l = true) : valL l = some (num l) := by
  match l, h, hw with
  | [], _, hw => simp [whole] at hw
  | [x0], h, hw =>
    have b0 := h x0 (by simp)
    have hn : need x0 = 1 := by simpa [whole] using hw
    have : x0 < 128 := by unfold need at hn; (repeat' split at hn) <;> omega
    simp only [valL, num]
    rw [head_eq (u8_and127 b0.1 (by omega)) (by omega) (by omega)]
    congr 1
    omega
  | [x0, x1], h, hw =>
    have b0 := h x0 (by simp)
    have b1 := h x1 (by simp)
    simp only [valL, num]
    rw [head_eq (u8_and31 _ b0.1 (by omega)) (by omega) (by omega), step_eq (by omega) (by omega) b1]
  | [x0, x1, x2], h, hw =>
    have b0 := h x0 (by simp)
    have b1 := h x1 (by simp)
    have b2 := h x2 (by simp)
    simp only [valL, num]
    rw [head_eq (u8_and15 _ b0.1 (by omega)) (by omega) (by omega), step_eq (by omega) (by omega) b1, step_eq (by omega) (by omega) b2]
  | [x0, x1, x2, x3], h, hw =>
    have b0 := h x0 (by simp)
    have b1 := h x1 (by simp)
    have b2 := h x2 (by simp)
    have b3 := h x3 (by simp)
    simp only [valL, num]
    rw [head_eq (u8_and7 _ b0.1 (by omega)) (by omega) (by omega), step_eq (by omega) (by omega) b1, step_eq (by omega) (by omega) b2, step_eq (by omega) (by omega) b3]
  | _ :: _ :: _ :: _ :: _ :: _, _, hw => simp [whole] at hw
theorem o_Value (k : Nat) (l : List Int) (h : Byt l) : octet_Value.f (k + 9) l = some (val l) := by
  unfold octet_Value.f val
  rw [o_Whole k l h]
  simp only [Option.bind_some]
  split
  · rename_i hw
    exact valL_eq l h hw
  · rfl
theorem num_range (l : List Int) (h : Byt l) (hw : whole l = true) : 0 ≤ num l ∧ num l < 2097152 := by
  match l, h, hw with
  | [], _, hw => simp [whole] at hw
  | [x0], h, hw => have b0 := h x0 (by simp); simp only [num]; omega
  | [x0, x1], h, hw => simp only [num]; omega
  | [x0, x1, x2], h, hw => simp only [num]; omega
  | [x0, x1, x2, x3], h, hw => simp only [num]; omega
  | _ :: _ :: _ :: _ :: _ :: _, _, hw => simp [whole] at hw
theorem val_range (l : List Int) (h : Byt l) : -1 ≤ val l ∧ val l < 2097152 := by
  unfold val
  split
  · rename_i hw
    have := num_range l h hw
    omega
  · omega
theorem whole_iff (l : List Int) (h : Byt l) : whole l = true ↔ l ≠ [] ∧ lg l = l.length := by
  match l, h with
  | [], _ => simp [whole]
  | [x0], h =>
    have b0 := h x0 (by simp)
    simp only [whole, lg, List.length_cons, List.length_nil, decide_eq_true_eq, ne_eq, reduceCtorEq, not_false_eq_true, true_and]
    have := lgT_cases x0 (List.getD [] 0 (-1)) (List.getD [] 1 (-1)) (List.getD [] 2 (-1))
    constructor
    · intro hn
      unfold lgT; rw [if_pos (by unfold need at hn; (repeat' split at hn) <;> omega)]
    · intro hn
      rw [need_1 (by omega)]
  | [x0, x1], h =>
    simp only [whole, lg, List.length_cons, List.length_nil, Bool.and_eq_true, decide_eq_true_eq, ne_eq, reduceCtorEq, not_false_eq_true, true_and, List.getD_cons_zero, List.getD_cons_succ, sec_iff]
    have := lgT_cases x0 x1 (List.getD [] 0 (-1)) (List.getD [] 1 (-1))
    constructor
    · rintro ⟨hn, h1, h2⟩
      have hx : 194 ≤ x0 ∧ x0 < 224 := by unfold need at hn; (repeat' split at hn) <;> omega
      unfold lgT; rw [if_neg (by omega), if_pos (by omega)]
    · intro hn
      rw [need_2 (by omega) (by omega)]
      omega
  | [x0, x1, x2], h =>
    simp only [whole, lg, List.length_cons, List.length_nil, Bool.and_eq_true, decide_eq_true_eq, ne_eq, reduceCtorEq, not_false_eq_true, true_and, List.getD_cons_zero, List.getD_cons_succ, sec_iff, tl_iff]
    constructor
    · rintro ⟨hn, ⟨h1, h2⟩, h3⟩
      have hx : 224 ≤ x0 ∧ x0 < 240 := by unfold need at hn; (repeat' split at hn) <;> omega
      unfold lgT; rw [if_neg (by omega), if_neg (by omega), if_pos (by omega)]
    · intro hn
      unfold lgT at hn
      split at hn
      · omega
      · split at hn
        · omega
        · split at hn
          · rw [need_3 (by omega) (by omega)]; omega
          · split at hn <;> omega
  | [x0, x1, x2, x3], h =>
    simp only [whole, lg, List.length_cons, List.length_nil, Bool.and_eq_true, decide_eq_true_eq, ne_eq, reduceCtorEq, not_false_eq_true, true_and, List.getD_cons_zero, List.getD_cons_succ, sec_iff, tl_iff]
    constructor
    · rintro ⟨hn, ⟨h1, h2⟩, h3, h4⟩
      have hx : 240 ≤ x0 ∧ x0 < 245 := by unfold need at hn; (repeat' split at hn) <;> omega
      unfold lgT; rw [if_neg (by omega), if_neg (by omega), if_neg (by omega), if_pos (by omega)]
    · intro hn
      unfold lgT at hn
      split at hn
      · omega
      · split at hn
        · omega
        · split at hn
          · omega
          · split at hn
            · rw [need_4 (by omega) (by omega)]; omega
            · omega
  | x0 :: x1 :: x2 :: x3 :: x4 :: r, _ =>
    simp only [whole, Bool.false_eq_true, false_iff]
    rintro ⟨_, hn⟩
    have := lg_le (x0 :: x1 :: x2 :: x3 :: x4 :: r)
    rw [hn] at this
    simp at this
theorem val_lg (l : List Int) (h : Byt l) (hn : l ≠ []) : (0 ≤ val l ↔ lg l = l.length) ∧ (lg l = l.length → (val l > 65535 ↔ lg l = 4)) := by
  have hw := whole_iff l h
  unfold val
  by_cases hwl : whole l = true
  · rw [if_pos hwl]
    have hl := (hw.1 hwl).2
    obtain ⟨x, t, rfl⟩ : ∃ x t, l = x :: t := by cases l with | nil => exact absurd rfl hn | cons x t => exact ⟨x, t, rfl⟩
    have hr := ru_facts x t (h x (by simp)).1
    have e : ru (x :: t) = num (x :: t) := by
      unfold ru
      rw [if_neg (by rw [hl]; simp), hl, List.take_length]
    rw [e] at hr
    exact ⟨⟨fun _ => hl, fun _ => hr.2.2.2.1⟩, fun _ => hr.2.2.1⟩
  · rw [if_neg hwl]
    have hne : ¬ lg l = l.length := fun c => hwl (hw.2 ⟨hn, c⟩)
    exact ⟨⟨fun c => by omega, fun c => absurd c hne⟩, fun c => absurd c hne⟩
end Go.Proofs.YteoonhidjldnfaaDoor.Ev

namespace Go.Proofs.YteoonhidjldnfaaDoor.Pr
open Go.RowKit Go.Proofs.YteoonhidjldnfaaDoorW.PrintWords Go.Proofs.YteoonhidjldnfaaDoorW.PrintLast Go.Proofs.YteoonhidjldnfaaDoorW.PrintMore
attribute [local go_sem] max2_int min2_int max_two min_two max_three min_three max_four min_four   -- for this text's walks alone
set_option linter.unusedVariables false
set_option linter.unusedSimpArgs false


def weld_units.f (a0 : Int) : Option (Int) := if a0 > 65535 then (some 2) else (some 1)
set_option maxHeartbeats 8000000 in
set_option maxRecDepth 100000 in
theorem weld_units.calls (a0 : Int) (r : Int) (w : World) (h : weld_units.f a0 = some r) :
  Calls Tryd.prog 42 #[.int .i32 a0] w fun e w' => e = .returned (.int .i64 r) ∧ Drawn0 w w' := by
 have H : (if a0 > 65535 then (some 2) else (some 1)) = some r := h
 clear h
 by_cases c2 : a0 > 65535
 ·rw [if_pos c2] at H
  have c2b0 : decide (65535 < a0) = true := decide_eq_true c2
  clear c2
  obtain rfl := Option.some.inj H
  go_enter Tryd.func42, Tryd.ntmps42
  go_wp2
  go_ret
  exact ⟨by first | rfl | (simp; done) | (simp [*]; done), by repeat (first | exact Drawn0.refl _ | apply Drawn0.step)⟩
 ·rw [if_neg c2] at H
  have c2b0 : decide (65535 < a0) = false := decide_eq_false c2
  clear c2
  obtain rfl := Option.some.inj H
  go_enter Tryd.func42, Tryd.ntmps42
  go_wp2
  go_ret
  exact ⟨by first | rfl | (simp; done) | (simp [*]; done), by repeat (first | exact Drawn0.refl _ | apply Drawn0.step)⟩
end Go.Proofs.YteoonhidjldnfaaDoor.Pr

namespace Go.Proofs.YteoonhidjldnfaaDoor.Pr
open Go.RowKit Go.Proofs.YteoonhidjldnfaaDoorW.PrintWords Go.Proofs.YteoonhidjldnfaaDoorW.PrintLast Go.Proofs.YteoonhidjldnfaaDoorW.PrintMore
attribute [local go_sem] max2_int min2_int max_two min_two max_three min_three max_four min_four   -- for this text's walks alone
set_option linter.unusedVariables false
set_option linter.unusedSimpArgs false
def weld_tailIs.f (a0 : ByteArray) (a1 : Int) : Option (Bool) := if (a0.size : Int) > 0 then (if 0 ≤ (wrap64 ((a0.size : Int) - 1)) then (if (wrap64 ((a0.size : Int) - 1)) < (a0.size : Int) then (some ((bt a0 (wrap64 ((a0.size : Int) - 1))) == a1)) else (none)) else (none)) else (some false)
set_option maxHeartbeats 8000000 in
set_option maxRecDepth 100000 in
theorem weld_tailIs.calls (a0 : ByteArray) (a1 : Int) (r : Bool) (w : World) (h : weld_tailIs.f a0 a1 = some r) :
  Calls Tryd.prog 55 #[.string a0, .int .u8 a1] w fun e w' => e = .returned (.bool r) ∧ Drawn0 w w' := by
 have H : (if (a0.size : Int) > 0 then (if 0 ≤ (wrap64 ((a0.size : Int) - 1)) then (if (wrap64 ((a0.size : Int) - 1)) < (a0.size : Int) then (some ((bt a0 (wrap64 ((a0.size : Int) - 1))) == a1)) else (none)) else (none)) else (some false)) = some r := h
 clear h
 by_cases c3 : (a0.size : Int) > 0
 ·rw [if_pos c3] at H
  have c3b0 : decide (0 < (a0.size : Int)) = true := decide_eq_true c3
  have c3b1 : decide (0 < a0.size) = true := decide_eq_true (by omega)
  clear c3
  obtain ⟨ji4, hji4⟩ : ∃ j_ : Int, (wrap64 ((a0.size : Int) - 1)) = j_ := ⟨_, rfl⟩
  replace H : (if 0 ≤ (ji4) then (if (ji4) < (a0.size : Int) then (some ((bt a0 (ji4)) == a1)) else (none)) else (none)) = some r := by first | (rw [hji4] at H; exact H) | (simp only [hji4] at H ⊢; exact H)
  have hji4w : (IntKind.i64.wrap ((a0.size : Int) - 1)) = ji4 := (i64_w _).trans hji4
  by_cases c5 : 0 ≤ (ji4)
  ·rw [if_pos c5] at H
   have c5b0 : decide (0 ≤ (ji4)) = true := decide_eq_true c5
   clear c5
   by_cases c6 : (ji4) < (a0.size : Int)
   ·rw [if_pos c6] at H
    have c6b0 : decide ((ji4) < (a0.size : Int)) = true := decide_eq_true c6
    clear c6
    obtain rfl := Option.some.inj H
    have p7 : 0 ≤ ((ji4) : Int) := of_decide_eq_true (by first | (with_reducible assumption) | assumption)
    have q7 : (ji4) < (a0.size : Int) := of_decide_eq_true (by first | (with_reducible assumption) | assumption)
    have hx7 := bt_at a0 (ji4)
    replace p7 := eq_true p7
    replace q7 := eq_true q7
    go_enter Tryd.func55, Tryd.ntmps55
    go_wp2
    go_ret
    exact ⟨by first | rfl | (simp; done) | (simp only [← hji4] <;> (first | rfl | simp)) | (simp [*]; done), by repeat (first | exact Drawn0.refl _ | apply Drawn0.step)⟩
   ·rw [if_neg c6] at H
    exact absurd H (by simp)
  ·rw [if_neg c5] at H
   exact absurd H (by simp)
 ·rw [if_neg c3] at H
  have c3b0 : decide (0 < (a0.size : Int)) = false := decide_eq_false c3
  have c3b1 : decide (0 < a0.size) = false := decide_eq_false (by omega)
  clear c3
  obtain rfl := Option.some.inj H
  go_enter Tryd.func55, Tryd.ntmps55
  go_wp2
  go_ret
  exact ⟨by first | rfl | (simp; done) | (simp [*]; done), by repeat (first | exact Drawn0.refl _ | apply Drawn0.step)⟩
mutual
def weld_seam.l0 : Nat → Int → Int → Int → Int → Int → ByteArray → ByteArray → Int → Int → Int → Int → ByteArray → ByteArray → Int → Int → Int → Int → Option (Int × Int × Int × Int)
 | 0, _, _, _, _, _, _, _, _, _, _, _, _, _, _, _, _, _ => none
 | k + 1, x6, x245000, x245001, x245002, x245003, x245004, x245005, x246000, x246001, x246002, x246003, x246004, x246005, x248000, x248001, x248002, x248003 => if x6 ≤ (x245005.size : Int) then (weld_seam.l1 k x6 1 x245000 x245001 x245002 x245003 x245004 x245005 x246000 x246001 x246002 x246003 x246004 x246005 x248000 x248001 x248002 x248003) else ((weld_tailIs.f x245005 13).bind fun t248 => (if t248 = true then (if (x246004.size : Int) > 0 then (if 0 < (x246004.size : Int) then (if (bt x246004 0) = 10 then (some (x248000, x248001, x248002, 1)) else (some (x248000, x248001, x248002, x248003))) else (none)) else (some (x248000, x248001, x248002, x248003))) else (some (x248000, x248001, x248002, x248003))))
def weld_seam.l1 : Nat → Int → Int → Int → Int → Int → Int → ByteArray → ByteArray → Int → Int → Int → Int → ByteArray → ByteArray → Int → Int → Int → Int → Option (Int × Int × Int × Int)
 | 0, _, _, _, _, _, _, _, _, _, _, _, _, _, _, _, _, _, _ => none
 | k + 1, x6, x7, x245000, x245001, x245002, x245003, x245004, x245005, x246000, x246001, x246002, x246003, x246004, x246005, x248000, x248001, x248002, x248003 => if x7 ≤ (x246004.size : Int) then (if 0 ≤ (wrap64 ((x245005.size : Int) - x6)) then (if (wrap64 ((x245005.size : Int) - x6)) ≤ (x245005.size : Int) then (if 0 ≤ x7 then (if (x245005.extract ((wrap64 ((x245005.size : Int) - x6)) : Int).toNat x245005.size).size + (x246004.extract 0 (x7 : Int).toNat).size ≤ 9223372036854775807 then (if ((x245005.extract ((wrap64 ((x245005.size : Int) - x6)) : Int).toNat x245005.size) ++ (x246004.extract 0 (x7 : Int).toNat)).size ≤ 9223372036854775807 then ((octet_Value.f k (bytesOf ((x245005.extract ((wrap64 ((x245005.size : Int) - x6)) : Int).toNat x245005.size) ++ (x246004.extract 0 (x7 : Int).toNat)))).bind fun t252 => (if t252 ≥ 0 then ((weld_units.f t252).bind fun t253 => (weld_seam.l1 k x6 (wrap64 (x7 + 1)) x245000 x245001 x245002 x245003 x245004 x245005 x246000 x246001 x246002 x246003 x246004 x246005 x248000 (wrap64 ((wrap64 (x6 + x7)) - 1)) (wrap64 ((wrap64 (x6 + x7)) - t253)) x248003)) else (weld_seam.l1 k x6 (wrap64 (x7 + 1)) x245000 x245001 x245002 x245003 x245004 x245005 x246000 x246001 x246002 x246003 x246004 x246005 x248000 x248001 x248002 x248003))) else (none)) else (none)) else (none)) else (none)) else (none)) else (weld_seam.l0 k (wrap64 (x6 + 1)) x245000 x245001 x245002 x245003 x245004 x245005 x246000 x246001 x246002 x246003 x246004 x246005 x248000 x248001 x248002 x248003)
end
def weld_seam.f (k : Nat) (a0_0 : Int) (a0_1 : Int) (a0_2 : Int) (a0_3 : Int) (a0_4 : ByteArray) (a0_5 : ByteArray) (a1_0 : Int) (a1_1 : Int) (a1_2 : Int) (a1_3 : Int) (a1_4 : ByteArray) (a1_5 : ByteArray) : Option (Int × Int × Int × Int) := weld_seam.l0 k 1 a0_0 a0_1 a0_2 a0_3 a0_4 a0_5 a1_0 a1_1 a1_2 a1_3 a1_4 a1_5 0 0 0 0
def weld_seam.T8 : Bool × List (List Nat × List Nat) := (true, [([], []), ([0], [0]), ([], []), ([2], [2]), ([3], [3]), ([], []), ([4, 5], [4, 5]), ([1, 6], [1, 6]), ([], []), ([8], [8]), ([], []), ([9, 10], [9, 10]), ([7, 11], [7, 11]), ([12], [12]), ([13], [13]), ([14, 14, 0, 1, 2, 3, 4, 5, 6, 7, 8, 9, 10, 11, 12, 13, 14], [14])])
def weld_seam.B8 : List Nat := [0, 1, 0, 4, 12, 0, 60, 127, 0, 256, 0, 1792, 4095, 8191, 16383, 32767]
theorem weld_seam.tab8 : rtab .any (opsOf Tryd.f44 8) = weld_seam.T8 := by kernel_rfl
theorem weld_seam.bits8 : waitsOk weld_seam.T8.2 weld_seam.B8 = true := by kernel_rfl
set_option maxHeartbeats 8000000 in
set_option maxRecDepth 100000 in
theorem weld_seam.calls (k : Nat) (a0_0 : Int) (a0_1 : Int) (a0_2 : Int) (a0_3 : Int) (a0_4 : ByteArray) (a0_5 : ByteArray) (a1_0 : Int) (a1_1 : Int) (a1_2 : Int) (a1_3 : Int) (a1_4 : ByteArray) (a1_5 : ByteArray) (r1 : Int) (r2 : Int) (r3 : Int) (r4 : Int) (w : World) (hG : Glob.Globs w) (h : weld_seam.f k a0_0 a0_1 a0_2 a0_3 a0_4 a0_5 a1_0 a1_1 a1_2 a1_3 a1_4 a1_5 = some (r1, r2, r3, r4)) :
  Calls Tryd.prog 44 #[.agg #[.int .i64 a0_0, .int .i64 a0_1, .int .i64 a0_2, .int .i64 a0_3, .string a0_4, .string a0_5], .agg #[.int .i64 a1_0, .int .i64 a1_1, .int .i64 a1_2, .int .i64 a1_3, .string a1_4, .string a1_5]] w fun e w' => e = .returned (.agg #[.int .i64 r1, .int .i64 r2, .int .i64 r3, .int .i64 r4]) ∧ Below w.heap.size w w' := by
 have hu36 := Tryd.underlying36
 have hu34 := Tryd.underlying34
 have HG := Aside0.mk hG; clear hG
 have HB := Aside0.mk (Below.refl w.heap.size w)
 have H : (weld_seam.l0 k 1 a0_0 a0_1 a0_2 a0_3 a0_4 a0_5 a1_0 a1_1 a1_2 a1_3 a1_4 a1_5 0 0 0 0) = some (r1, r2, r3, r4) := h
 clear h; have H' := Aside0.mk H; clear H
 go_enter Tryd.func44, Tryd.ntmps44
 go_wp2_with (first | ((with_reducible refine gate_dst (N := 2) rfl ?_); (try (refine gate_guard (by rfl) ?_; dsimp only)); refine box_event ?hg (N := 2) ?hd (cs := #[.int .i64 a0_0, .int .i64 a0_1, .int .i64 a0_2, .int .i64 a0_3, .string a0_4, .string a0_5]) (t := 36) ?hr ?_; (case hd => rfl); (case hg => rfl); (case hr => first | (go_simp; done) | (go_simp; rfl)); intro gb244 hg w3 hbox hb; have n0_ := Aside0.mk (below_step (bl HB.out) hb); have n1_ := Aside0.mk (hbox); have n2_ := Aside0.mk ((by rw [hg]; exact (below_size (bl HB.out)) : w.heap.size ≤ gb244)); have n3_ := Aside0.mk ((by rw [hg]; exact (below_size (bl HB.out)) : w.heap.size ≤ gb244)); clear HB; have HB := n0_; have BK244 := n1_; have GW244 := n2_; have GE244 := n3_; clear n0_ n1_ n2_ n3_; clear hb hbox hg) | ((with_reducible refine gate_dst (N := 3) rfl ?_); (try (refine gate_guard (by rfl) ?_; dsimp only)); refine box_event ?hg (N := 3) ?hd (cs := #[.int .i64 a1_0, .int .i64 a1_1, .int .i64 a1_2, .int .i64 a1_3, .string a1_4, .string a1_5]) (t := 36) ?hr ?_; (case hd => rfl); (case hg => rfl); (case hr => first | (go_simp; done) | (go_simp; rfl)); intro gb245 hg w4 hbox hb; have n0_ := Aside0.mk (blk_below (pl BK244.out) hb); have n1_ := Aside0.mk (below_step (by repeat (first | (with_reducible first | exact HB.out | apply below_alloc | apply pw_below_drewN | apply below_drew1 | refine below_set ?_ GE244.out) | exact HB.out)) hb); have n2_ := Aside0.mk (hbox); have n3_ := Aside0.mk ((by rw [hg]; exact (below_size (by repeat (first | (with_reducible first | exact HB.out | apply below_alloc | apply pw_below_drewN | apply below_drew1 | refine below_set ?_ GE244.out) | exact HB.out))) : w.heap.size ≤ gb245)); have n4_ := Aside0.mk ((by rw [hg]; exact (below_size (by repeat (first | (with_reducible first | exact HB.out | apply below_alloc | apply pw_below_drewN | apply below_drew1 | refine below_set ?_ GE244.out) | exact HB.out))) : w.heap.size ≤ gb245)); have n5_ := Aside0.mk ((by rw [hg]; exact Nat.ne_of_lt (blk_lt (pl BK244.out)) : gb244 ≠ gb245)); have n6_ := Aside0.mk ((by rw [hg]; exact Nat.ne_of_gt (blk_lt (pl BK244.out)) : gb245 ≠ gb244)); clear BK244; clear HB; have BK244 := n0_; have HB := n1_; have BK245 := n2_; have GW245 := n3_; have GE245 := n4_; have NB244_245 := n5_; have NB245_244 := n6_; clear n0_ n1_ n2_ n3_ n4_ n5_ n6_; clear hb hbox hg) | ((with_reducible refine gate_dst (N := 4) rfl ?_); (try (refine gate_guard (by rfl) ?_; dsimp only)); refine box_event ?hg (N := 4) ?hd (cs := #[.int .i64 0, .int .i64 0, .int .i64 0, .int .i64 0]) (t := 34) ?hr ?_; (case hd => rfl); (case hg => rfl); (case hr => first | (go_simp; done) | (go_simp; rfl)); intro gb246 hg w5 hbox hb; have n0_ := Aside0.mk (blk_below (pl BK244.out) hb); have n1_ := Aside0.mk (blk_below (pl BK245.out) hb); have n2_ := Aside0.mk (below_step (by repeat (first | (with_reducible first | exact HB.out | apply below_alloc | apply pw_below_drewN | apply below_drew1 | refine below_set ?_ GE244.out | refine below_set ?_ GE245.out) | exact HB.out)) hb); have n3_ := Aside0.mk (hbox); have n4_ := Aside0.mk ((by rw [hg]; exact (below_size (by repeat (first | (with_reducible first | exact HB.out | apply below_alloc | apply pw_below_drewN | apply below_drew1 | refine below_set ?_ GE244.out | refine below_set ?_ GE245.out) | exact HB.out))) : w.heap.size ≤ gb246)); have n5_ := Aside0.mk ((by rw [hg]; exact (below_size (by repeat (first | (with_reducible first | exact HB.out | apply below_alloc | apply pw_below_drewN | apply below_drew1 | refine below_set ?_ GE244.out | refine below_set ?_ GE245.out) | exact HB.out))) : w.heap.size ≤ gb246)); have n6_ := Aside0.mk ((by rw [hg]; exact Nat.ne_of_lt (blk_lt (pl BK244.out)) : gb244 ≠ gb246)); have n7_ := Aside0.mk ((by rw [hg]; exact Nat.ne_of_gt (blk_lt (pl BK244.out)) : gb246 ≠ gb244)); have n8_ := Aside0.mk ((by rw [hg]; exact Nat.ne_of_lt (blk_lt (pl BK245.out)) : gb245 ≠ gb246)); have n9_ := Aside0.mk ((by rw [hg]; exact Nat.ne_of_gt (blk_lt (pl BK245.out)) : gb246 ≠ gb245)); clear BK244; clear BK245; clear HB; have BK244 := n0_; have BK245 := n1_; have HB := n2_; have BK246 := n3_; have GW246 := n4_; have GE246 := n5_; have NB244_246 := n6_; have NB246_244 := n7_; have NB245_246 := n8_; have NB246_245 := n9_; clear n0_ n1_ n2_ n3_ n4_ n5_ n6_ n7_ n8_ n9_; clear hb hbox hg) | ((with_reducible refine gate_dst (N := 5) rfl ?_); (try (refine gate_guard (by rfl) ?_; dsimp only)); refine box_event ?hg (N := 5) ?hd (cs := #[.int .i64 0, .int .i64 0, .int .i64 0, .int .i64 0]) (t := 34) ?hr ?_; (case hd => rfl); (case hg => rfl); (case hr => first | (go_simp; done) | (go_simp; rfl)); intro gb247 hg w6 hbox hb; have n0_ := Aside0.mk (blk_below (pl BK244.out) hb); have n1_ := Aside0.mk (blk_below (pl BK245.out) hb); have n2_ := Aside0.mk (blk_below (pl BK246.out) hb); have n3_ := Aside0.mk (below_step (by repeat (first | (with_reducible first | exact HB.out | apply below_alloc | apply pw_below_drewN | apply below_drew1 | refine below_set ?_ GE244.out | refine below_set ?_ GE245.out | refine below_set ?_ GE246.out) | exact HB.out)) hb); have n4_ := Aside0.mk (hbox); have n5_ := Aside0.mk ((by rw [hg]; exact (below_size (by repeat (first | (with_reducible first | exact HB.out | apply below_alloc | apply pw_below_drewN | apply below_drew1 | refine below_set ?_ GE244.out | refine below_set ?_ GE245.out | refine below_set ?_ GE246.out) | exact HB.out))) : w.heap.size ≤ gb247)); have n6_ := Aside0.mk ((by rw [hg]; exact (below_size (by repeat (first | (with_reducible first | exact HB.out | apply below_alloc | apply pw_below_drewN | apply below_drew1 | refine below_set ?_ GE244.out | refine below_set ?_ GE245.out | refine below_set ?_ GE246.out) | exact HB.out))) : w.heap.size ≤ gb247)); have n7_ := Aside0.mk ((by rw [hg]; exact Nat.ne_of_lt (blk_lt (pl BK244.out)) : gb244 ≠ gb247)); have n8_ := Aside0.mk ((by rw [hg]; exact Nat.ne_of_gt (blk_lt (pl BK244.out)) : gb247 ≠ gb244)); have n9_ := Aside0.mk ((by rw [hg]; exact Nat.ne_of_lt (blk_lt (pl BK245.out)) : gb245 ≠ gb247)); have n10_ := Aside0.mk ((by rw [hg]; exact Nat.ne_of_gt (blk_lt (pl BK245.out)) : gb247 ≠ gb245)); have n11_ := Aside0.mk ((by rw [hg]; exact Nat.ne_of_lt (blk_lt (pl BK246.out)) : gb246 ≠ gb247)); have n12_ := Aside0.mk ((by rw [hg]; exact Nat.ne_of_gt (blk_lt (pl BK246.out)) : gb247 ≠ gb246)); clear BK244; clear BK245; clear BK246; clear HB; have BK244 := n0_; have BK245 := n1_; have BK246 := n2_; have HB := n3_; have BK247 := n4_; have GW247 := n5_; have GE247 := n6_; have NB244_247 := n7_; have NB247_244 := n8_; have NB245_247 := n9_; have NB247_245 := n10_; have NB246_247 := n11_; have NB247_246 := n12_; clear n0_ n1_ n2_ n3_ n4_ n5_ n6_ n7_ n8_ n9_ n10_ n11_ n12_; clear hb hbox hg))
 go_loopg [6] k (fun kq v6 w' => ∃ (x6_1 : Int) (x248001_1 : Int) (x248002_1 : Int), v6 = .int .i64 x6_1 ∧ Aside0 (weld_seam.l0 kq x6_1 a0_0 a0_1 a0_2 a0_3 a0_4 a0_5 a1_0 a1_1 a1_2 a1_3 a1_4 a1_5 0 x248001_1 x248002_1 0 = some (r1, r2, r3, r4)) ∧ Aside0 (kq ≤ k) ∧ Aside0 (w'.heap[gb244]? = some (.cells #[.int .i64 a0_0, .int .i64 a0_1, .int .i64 a0_2, .int .i64 a0_3, .string a0_4, .string a0_5] 36 (0, 0))) ∧ Aside0 (w'.heap[gb245]? = some (.cells #[.int .i64 a1_0, .int .i64 a1_1, .int .i64 a1_2, .int .i64 a1_3, .string a1_4, .string a1_5] 36 (0, 0))) ∧ Aside0 (w'.heap[gb246]? = some (.cells #[.int .i64 0, .int .i64 0, .int .i64 0, .int .i64 0] 34 (0, 0))) ∧ Aside0 (w'.heap[gb247]? = some (.cells #[.int .i64 0, .int .i64 x248001_1, .int .i64 x248002_1, .int .i64 0] 34 (0, 0))) ∧ Aside0 (Below w.heap.size w w'))
 case atStart => exact ⟨(1), (0), (0), (by first | rfl | (simp; done) | (simp [*]; done)), H', ⟨Nat.le_refl _⟩, ⟨pl BK244.out⟩, ⟨pl BK245.out⟩, ⟨pl BK246.out⟩, ⟨pl BK247.out⟩, ⟨by repeat (first | (with_reducible first | exact HB.out | apply below_alloc | apply pw_below_drewN | apply below_drew1 | refine below_set ?_ GE244.out | refine below_set ?_ GE245.out | refine below_set ?_ GE246.out | refine below_set ?_ GE247.out) | exact HB.out)⟩⟩
 case round =>
  clear H'
  (try clear p2); (try clear c4)
  obtain ⟨x6_1, x248001_1, x248002_1, rfl, HA, HK1, BK244, BK245, BK246, BK247, HB⟩ := hrel
  cases gk with
  | zero => exact absurd HA.out (by simp [weld_seam.l0])
  | succ k1 =>
   have H := HA.out; clear HA
   simp only [weld_seam.l0] at H
   by_cases c7 : x6_1 ≤ (a0_5.size : Int)
   ·rw [if_pos c7] at H
    have c7b0 : decide (x6_1 ≤ (a0_5.size : Int)) = true := decide_eq_true c7
    clear c7; have H' := Aside0.mk H; clear H; have hnb8 := NB244_245.out; have hnc8 := NB245_244.out; have hnb9 := NB244_246.out; have hnc9 := NB246_244.out; have hnb10 := NB244_247.out; have hnc10 := NB247_244.out; obtain ⟨hcz11_0, hcz11_1, hcz11_2, hcz11_3, hcz11_4, hcz11_5⟩ := cl6 BK244.out; obtain ⟨hfz11_0, hfz11_1, hfz11_2, hfz11_3, hfz11_4, hfz11_5⟩ := fl6 BK244.out
    go_wp2
    go_loopg [7] k1 (fun kq v7 w' => ∃ (x7_2 : Int) (x248001_2 : Int) (x248002_2 : Int), v7 = .int .i64 x7_2 ∧ Aside0 (weld_seam.l1 kq x6_1 x7_2 a0_0 a0_1 a0_2 a0_3 a0_4 a0_5 a1_0 a1_1 a1_2 a1_3 a1_4 a1_5 0 x248001_2 x248002_2 0 = some (r1, r2, r3, r4)) ∧ Aside0 (kq ≤ k1) ∧ Aside0 (w'.heap[gb244]? = some (.cells #[.int .i64 a0_0, .int .i64 a0_1, .int .i64 a0_2, .int .i64 a0_3, .string a0_4, .string a0_5] 36 (0, 0))) ∧ Aside0 (w'.heap[gb245]? = some (.cells #[.int .i64 a1_0, .int .i64 a1_1, .int .i64 a1_2, .int .i64 a1_3, .string a1_4, .string a1_5] 36 (0, 0))) ∧ Aside0 (w'.heap[gb246]? = some (.cells #[.int .i64 0, .int .i64 0, .int .i64 0, .int .i64 0] 34 (0, 0))) ∧ Aside0 (w'.heap[gb247]? = some (.cells #[.int .i64 0, .int .i64 x248001_2, .int .i64 x248002_2, .int .i64 0] 34 (0, 0))) ∧ Aside0 (Below w.heap.size w w'))
    case atStart => exact ⟨(1), (x248001_1), (x248002_1), (by first | rfl | (simp; done) | (simp [*]; done)), H', ⟨Nat.le_refl _⟩, ⟨pl BK244.out⟩, ⟨pl BK245.out⟩, ⟨pl BK246.out⟩, ⟨pl BK247.out⟩, ⟨by repeat (first | (with_reducible first | exact HB.out | apply below_alloc | apply pw_below_drewN | apply below_drew1 | refine below_set ?_ GE244.out | refine below_set ?_ GE245.out | refine below_set ?_ GE246.out | refine below_set ?_ GE247.out) | exact HB.out)⟩⟩
    case round =>
     clear H'
     (try clear c1); (try clear p2); (try clear c4); (try clear c7); (try clear c7b0); (try clear c8); (try clear c9); (try clear c10); (try clear hcz11_0); (try clear hcz11_1); (try clear hcz11_2); (try clear hcz11_3); (try clear hcz11_4); (try clear hcz11_5); (try clear hfz11_0); (try clear hfz11_1); (try clear hfz11_2); (try clear hfz11_3); (try clear hfz11_4); (try clear hfz11_5); (try clear p2)
     obtain ⟨x7_2, x248001_2, x248002_2, rfl, HA, HK2, BK244, BK245, BK246, BK247, HB⟩ := hrel
     cases gk with
     | zero => exact absurd HA.out (by simp [weld_seam.l1])
     | succ k2 =>
      have H := HA.out; clear HA
      simp only [weld_seam.l1] at H
      by_cases c12 : x7_2 ≤ (a1_4.size : Int)
      ·rw [if_pos c12] at H
       have c12b0 : decide (x7_2 ≤ (a1_4.size : Int)) = true := decide_eq_true c12
       clear c12
       obtain ⟨ji13, hji13⟩ : ∃ j_ : Int, (wrap64 ((a0_5.size : Int) - x6_1)) = j_ := ⟨_, rfl⟩
       replace H : (if 0 ≤ (ji13) then (if (ji13) ≤ (a0_5.size : Int) then (if 0 ≤ x7_2 then (if (a0_5.extract ((ji13) : Int).toNat a0_5.size).size + (a1_4.extract 0 (x7_2 : Int).toNat).size ≤ 9223372036854775807 then (if ((a0_5.extract ((ji13) : Int).toNat a0_5.size) ++ (a1_4.extract 0 (x7_2 : Int).toNat)).size ≤ 9223372036854775807 then ((octet_Value.f k2 (bytesOf ((a0_5.extract ((ji13) : Int).toNat a0_5.size) ++ (a1_4.extract 0 (x7_2 : Int).toNat)))).bind fun t252 => (if t252 ≥ 0 then ((weld_units.f t252).bind fun t253 => (weld_seam.l1 k2 x6_1 (wrap64 (x7_2 + 1)) a0_0 a0_1 a0_2 a0_3 a0_4 a0_5 a1_0 a1_1 a1_2 a1_3 a1_4 a1_5 0 (wrap64 ((wrap64 (x6_1 + x7_2)) - 1)) (wrap64 ((wrap64 (x6_1 + x7_2)) - t253)) 0)) else (weld_seam.l1 k2 x6_1 (wrap64 (x7_2 + 1)) a0_0 a0_1 a0_2 a0_3 a0_4 a0_5 a1_0 a1_1 a1_2 a1_3 a1_4 a1_5 0 x248001_2 x248002_2 0))) else (none)) else (none)) else (none)) else (none)) else (none)) = some (r1, r2, r3, r4) := by first | (rw [hji13] at H; exact H) | (simp only [hji13] at H ⊢; exact H)
       have hji13w : (IntKind.i64.wrap ((a0_5.size : Int) - x6_1)) = ji13 := (i64_w _).trans hji13
       by_cases c14 : 0 ≤ (ji13)
       ·rw [if_pos c14] at H
        have c14b0 := eq_true c14
        have c14b1 : decide (0 ≤ (ji13)) = true := decide_eq_true c14
        clear c14
        by_cases c15 : (ji13) ≤ (a0_5.size : Int)
        ·rw [if_pos c15] at H
         have c15b0 := eq_true c15
         have c15b1 : decide ((ji13) ≤ (a0_5.size : Int)) = true := decide_eq_true c15
         clear c15
         by_cases c16 : 0 ≤ x7_2
         ·rw [if_pos c16] at H
          have c16b0 := eq_true c16
          have c16b1 : decide (0 ≤ x7_2) = true := decide_eq_true c16
          clear c16
          have c17b0 := eq_true (of_decide_eq_true (by first | (with_reducible assumption) | assumption) : x7_2 ≤ (a1_4.size : Int))
          by_cases c18 : (a0_5.extract ((ji13) : Int).toNat a0_5.size).size + (a1_4.extract 0 (x7_2 : Int).toNat).size ≤ 9223372036854775807
          ·rw [if_pos c18] at H
           have c18b0 := eq_true c18
           have c18b1 : decide ((a0_5.extract ((ji13) : Int).toNat a0_5.size).size + (a1_4.extract 0 (x7_2 : Int).toNat).size ≤ 9223372036854775807) = true := decide_eq_true c18
           try have c18b2 : (9223372036854775807 < (a0_5.extract ((ji13) : Int).toNat a0_5.size).size + (a1_4.extract 0 (x7_2 : Int).toNat).size) = False := eq_false (Nat.not_lt.2 c18)
           have c18b3 : (9223372036854775807 < a0_5.size - ji13.toNat + x7_2.toNat) = False := eq_false (by have z_ := c18; have z2_ : x7_2 ≤ (a1_4.size : Int) := of_decide_eq_true (by first | (with_reducible assumption) | assumption); simp only [ByteArray.size_extract] at z_; omega)
           by_cases c19 : ((a0_5.extract ((ji13) : Int).toNat a0_5.size) ++ (a1_4.extract 0 (x7_2 : Int).toNat)).size ≤ 9223372036854775807
           ·rw [if_pos c19] at H
            have c19b0 := eq_true c19
            have c19b1 : decide (((a0_5.extract ((ji13) : Int).toNat a0_5.size) ++ (a1_4.extract 0 (x7_2 : Int).toNat)).size ≤ 9223372036854775807) = true := decide_eq_true c19
            try have c19b2 : (9223372036854775807 < ((a0_5.extract ((ji13) : Int).toNat a0_5.size) ++ (a1_4.extract 0 (x7_2 : Int).toNat)).size) = False := eq_false (Nat.not_lt.2 c19)
            obtain ⟨y249, hy249⟩ : ∃ y_ : List Int, y_ = (bytesOf ((a0_5.extract ((ji13) : Int).toNat a0_5.size) ++ (a1_4.extract 0 (x7_2 : Int).toNat))) := ⟨_, rfl⟩
            replace H : ((octet_Value.f k2 y249).bind fun t252 => (if t252 ≥ 0 then ((weld_units.f t252).bind fun t253 => (weld_seam.l1 k2 x6_1 (wrap64 (x7_2 + 1)) a0_0 a0_1 a0_2 a0_3 a0_4 a0_5 a1_0 a1_1 a1_2 a1_3 a1_4 a1_5 0 (wrap64 ((wrap64 (x6_1 + x7_2)) - 1)) (wrap64 ((wrap64 (x6_1 + x7_2)) - t253)) 0)) else (weld_seam.l1 k2 x6_1 (wrap64 (x7_2 + 1)) a0_0 a0_1 a0_2 a0_3 a0_4 a0_5 a1_0 a1_1 a1_2 a1_3 a1_4 a1_5 0 x248001_2 x248002_2 0))) = some (r1, r2, r3, r4) := by first | (rw [hy249]; with_reducible exact H) | (have H2_ := (Option.bind_some _ _).symm.trans H; rw [hy249]; with_reducible exact H2_) | (have H2_ := (Option.bind_some _ _).symm.trans H; with_reducible exact H2_) | with_reducible exact H | (rw [hy249]; exact H) | exact H
            have Ny249 := Aside0.mk hy249; clear hy249
            replace H := Option.bind_eq_some_iff.mp H
            obtain ⟨t252, A200, H⟩ := H
            have A20 := Aside0.mk A200; clear A200
            by_cases c21 : t252 ≥ 0
            ·rw [if_pos c21] at H
             have c21b0 : decide (0 ≤ t252) = true := decide_eq_true c21
             clear c21
             replace H := Option.bind_eq_some_iff.mp H
             obtain ⟨t253, A220, H⟩ := H
             have A22 := Aside0.mk A220; clear A220; have H' := Aside0.mk H; clear H; have hnb23 := NB245_244.out; have hnc23 := NB244_245.out; have hnb24 := NB245_246.out; have hnc24 := NB246_245.out; have hnb25 := NB245_247.out; have hnc25 := NB247_245.out; obtain ⟨hcz26_0, hcz26_1, hcz26_2, hcz26_3, hcz26_4, hcz26_5⟩ := cl6 BK245.out; obtain ⟨hfz26_0, hfz26_1, hfz26_2, hfz26_3, hfz26_4, hfz26_5⟩ := fl6 BK245.out
             try go_wp2
             have n0_ := Aside0.mk (blk_drew BK244.out)
             have n1_ := Aside0.mk (blk_drew BK245.out)
             have n2_ := Aside0.mk (blk_drew BK246.out)
             have n3_ := Aside0.mk (blk_drew BK247.out)
             have n4_ := Aside0.mk (below_drew1 HB.out)
             clear BK244; clear BK245; clear BK246; clear BK247; clear HB; have BK244 := n0_; have BK245 := n1_; have BK246 := n2_; have BK247 := n3_; have HB := n4_; clear n0_ n1_ n2_ n3_ n4_
             refine start_ (n := 16) (S := fun w' => w'.cell? ⟨gb244, 0, none⟩ = some (.int .i64 a0_0) ∧ w'.cell? ⟨gb244, 1, none⟩ = some (.int .i64 a0_1) ∧ w'.cell? ⟨gb244, 2, none⟩ = some (.int .i64 a0_2) ∧ w'.cell? ⟨gb244, 3, none⟩ = some (.int .i64 a0_3) ∧ w'.cell? ⟨gb244, 4, none⟩ = some (.string a0_4) ∧ w'.cell? ⟨gb244, 5, none⟩ = some (.string a0_5) ∧ w'.cell? ⟨gb245, 0, none⟩ = some (.int .i64 a1_0) ∧ w'.cell? ⟨gb245, 1, none⟩ = some (.int .i64 a1_1) ∧ w'.cell? ⟨gb245, 2, none⟩ = some (.int .i64 a1_2) ∧ w'.cell? ⟨gb245, 3, none⟩ = some (.int .i64 a1_3) ∧ w'.cell? ⟨gb245, 4, none⟩ = some (.string a1_4) ∧ w'.cell? ⟨gb245, 5, none⟩ = some (.string a1_5)) (ds := []) #[false, false, false, false, false, false, false, false, false, false, false, false, false, false, false, false] (by kernel_rfl) rfl rfl ⟨(blk_cell BK244.out 0).trans rfl, (blk_cell BK244.out 1).trans rfl, (blk_cell BK244.out 2).trans rfl, (blk_cell BK244.out 3).trans rfl, (blk_cell BK244.out 4).trans rfl, (blk_cell BK244.out 5).trans rfl, (blk_cell BK245.out 0).trans rfl, (blk_cell BK245.out 1).trans rfl, (blk_cell BK245.out 2).trans rfl, (blk_cell BK245.out 3).trans rfl, (blk_cell BK245.out 4).trans rfl, (blk_cell BK245.out 5).trans rfl⟩ (fun hHeld => ?_); refine with_tabW weld_seam.tab8 weld_seam.bits8 (fun HT_ HW_ => ?_)
             generalize wr.drew = w27 at BK244 BK245 BK246 BK247 HB hHeld ⊢
             refine pure_ (i := 0) (N := some 23) (v := ?_) (a' := ?_) #[true, false, false, false, false, false, false, false, false, false, false, false, false, false, false, false] rfl rfl (any_of HT_.out (by kernel_rfl)) (fun _ _ _ h => h) (Or.inl ⟨by rfl, ?_⟩) ?_ ?_
             rotate_left
             ·intro w'
              go_simp
              with_reducible rfl
             rotate_left
             ·simp only [Act.put, List.setIfInBounds_toArray, List.set_cons_zero, List.set_cons_succ, i64_w, i32_w]
              rfl
             refine pure_ (i := 2) (N := some 25) (v := ?_) (a' := ?_) #[true, false, true, false, false, false, false, false, false, false, false, false, false, false, false, false] rfl rfl (any_of HT_.out (by kernel_rfl)) (fun _ _ _ h => h) (Or.inl ⟨by rfl, ?_⟩) ?_ ?_
             rotate_left
             ·intro w'
              go_simp
              with_reducible rfl
             rotate_left
             ·simp only [Act.put, List.setIfInBounds_toArray, List.set_cons_zero, List.set_cons_succ, i64_w, i32_w]
              rfl
             refine pure_ (i := 5) (N := some 28) (v := ?_) (a' := ?_) #[true, false, true, false, false, true, false, false, false, false, false, false, false, false, false, false] rfl rfl (any_of HT_.out (by kernel_rfl)) (fun _ _ _ h => h) (Or.inl ⟨by rfl, ?_⟩) ?_ ?_
             rotate_left
             ·intro w'
              go_simp
              with_reducible rfl
             rotate_left
             ·simp only [Act.put, List.setIfInBounds_toArray, List.set_cons_zero, List.set_cons_succ, i64_w, i32_w]
              rfl
             refine pure_ (i := 8) (N := some 31) (v := ?_) (a' := ?_) #[true, false, true, false, false, true, false, false, true, false, false, false, false, false, false, false] rfl rfl (any_of HT_.out (by kernel_rfl)) (fun _ _ _ h => h) (Or.inl ⟨by rfl, ?_⟩) ?_ ?_
             rotate_left
             ·intro w'
              go_simp
              with_reducible rfl
             rotate_left
             ·simp only [Act.put, List.setIfInBounds_toArray, List.set_cons_zero, List.set_cons_succ, i64_w, i32_w]
              rfl
             refine pure_ (i := 10) (N := some 33) (v := ?_) (a' := ?_) #[true, false, true, false, false, true, false, false, true, false, true, false, false, false, false, false] rfl rfl (any_of HT_.out (by kernel_rfl)) (fun _ _ _ h => h) (Or.inl ⟨by rfl, ?_⟩) ?_ ?_
             rotate_left
             ·intro w'
              go_simp
              with_reducible rfl
             rotate_left
             ·simp only [Act.put, List.setIfInBounds_toArray, List.set_cons_zero, List.set_cons_succ, i64_w, i32_w]
              rfl
             refine take_ (i := 1) (N := some 24) (v := ?_) (a' := ?_) #[true, true, true, false, false, true, false, false, true, false, true, false, false, false, false, false] rfl rfl (take_ofW HT_.out HW_.out (by kernel_rfl)) (fun _ _ _ h => h) (Or.inl ⟨by rfl, ?_⟩) hHeld ?_ ?_
             rotate_left
             ·rintro w' ⟨s0, s1, s2, s3, s4, s5, s6, s7, s8, s9, s10, s11⟩
              go_simp
              with_reducible rfl
             rotate_left
             ·simp only [Act.put, List.setIfInBounds_toArray, List.set_cons_zero, List.set_cons_succ, i64_w, i32_w]
              rfl
             refine take_ (i := 3) (N := some 26) (v := ?_) (a' := ?_) #[true, true, true, true, false, true, false, false, true, false, true, false, false, false, false, false] rfl rfl (take_ofW HT_.out HW_.out (by kernel_rfl)) (fun _ _ _ h => h) (Or.inl ⟨by rfl, ?_⟩) hHeld ?_ ?_
             rotate_left
             ·rintro w' ⟨s0, s1, s2, s3, s4, s5, s6, s7, s8, s9, s10, s11⟩
              go_simp
              with_reducible rfl
             rotate_left
             ·simp only [Act.put, List.setIfInBounds_toArray, List.set_cons_zero, List.set_cons_succ, i64_w, i32_w]
              rfl
             refine pure_ (i := 4) (N := some 27) (v := ?_) (a' := ?_) #[true, true, true, true, true, true, false, false, true, false, true, false, false, false, false, false] rfl rfl (any_of HT_.out (by kernel_rfl)) (fun _ _ _ h => h) (Or.inl ⟨by rfl, ?_⟩) ?_ ?_
             rotate_left
             ·intro w'
              go_simp
              with_reducible rfl
             rotate_left
             ·simp only [Act.put, List.setIfInBounds_toArray, List.set_cons_zero, List.set_cons_succ, i64_w, i32_w]
              rfl
             refine pure_ (i := 6) (N := some 29) (v := ?_) (a' := ?_) #[true, true, true, true, true, true, true, false, true, false, true, false, false, false, false, false] rfl rfl (any_of HT_.out (by kernel_rfl)) (fun _ _ _ h => h) (Or.inl ⟨by rfl, ?_⟩) ?_ ?_
             rotate_left
             ·intro w'
              go_simp
              with_reducible rfl
             rotate_left
             ·simp only [Act.put, List.setIfInBounds_toArray, List.set_cons_zero, List.set_cons_succ, i64_w, i32_w]
              rfl
             refine pure_ (i := 7) (N := some 30) (v := ?_) (a' := ?_) #[true, true, true, true, true, true, true, true, true, false, true, false, false, false, false, false] rfl rfl (any_of HT_.out (by kernel_rfl)) (fun _ _ _ h => h) (Or.inl ⟨by rfl, ?_⟩) ?_ ?_
             rotate_left
             ·intro w'
              go_simp
              with_reducible rfl
             rotate_left
             ·simp only [Act.put, List.setIfInBounds_toArray, List.set_cons_zero, List.set_cons_succ, i64_w, i32_w]
              rfl
             refine take_ (i := 9) (N := some 32) (v := ?_) (a' := ?_) #[true, true, true, true, true, true, true, true, true, true, true, false, false, false, false, false] rfl rfl (take_ofW HT_.out HW_.out (by kernel_rfl)) (fun _ _ _ h => h) (Or.inl ⟨by rfl, ?_⟩) hHeld ?_ ?_
             rotate_left
             ·rintro w' ⟨s0, s1, s2, s3, s4, s5, s6, s7, s8, s9, s10, s11⟩
              go_simp
              with_reducible rfl
             rotate_left
             ·simp only [Act.put, List.setIfInBounds_toArray, List.set_cons_zero, List.set_cons_succ, i64_w, i32_w]
              rfl
             refine pure_ (i := 11) (N := some 34) (v := ?_) (a' := ?_) #[true, true, true, true, true, true, true, true, true, true, true, true, false, false, false, false] rfl rfl (any_of HT_.out (by kernel_rfl)) (fun _ _ _ h => h) (Or.inl ⟨by rfl, ?_⟩) ?_ ?_
             rotate_left
             ·intro w'
              go_simp
              with_reducible rfl
             rotate_left
             ·simp only [Act.put, List.setIfInBounds_toArray, List.set_cons_zero, List.set_cons_succ, i64_w, i32_w]
              rfl
             refine pure_ (i := 12) (N := some 35) (v := ?_) (a' := ?_) #[true, true, true, true, true, true, true, true, true, true, true, true, true, false, false, false] rfl rfl (any_of HT_.out (by kernel_rfl)) (fun _ _ _ h => h) (Or.inl ⟨by rfl, ?_⟩) ?_ ?_
             rotate_left
             ·intro w'
              go_simp
              with_reducible rfl
             rotate_left
             ·simp only [Act.put, List.setIfInBounds_toArray, List.set_cons_zero, List.set_cons_succ, i64_w, i32_w]
              rfl
             refine one_ (i := 13) (N := some 36) #[true, true, true, true, true, true, true, true, true, true, true, true, true, true, false, false] rfl rfl (one_of HT_.out (by kernel_rfl)) (by decide) (fun K hK => ?_)
             refine Kd.V_bytes_step _ 5 ?hg (N := 36) ?hd (s := ((a0_5.extract ((ji13) : Int).toNat a0_5.size) ++ (a1_4.extract 0 (x7_2 : Int).toNat))) (ok := fun k_ => w27.heap.size ≤ k_) rfl ?hx Tryd.underlying9 Tryd.underlying26 Tryd.underlying5 (Nat.le_refl _) (Below.refl _ _) (Nat.le_refl _) (of_decide_eq_true (by first | (with_reducible assumption) | assumption)) ?_; (case hd => rfl); (case hg => rfl); (case hx => first | rfl | (go_simp; done) | (go_simp; rfl))
             intro v250 w28 ho29 hb hg_ hnew_
             clear hg_ hnew_
             (first | rw [← Ny249.out] at ho29 | (simp only [Int.reduceToNat] at ho29; rw [← Ny249.out] at ho29))
             have n0_ := Aside0.mk (Kd.V_lower (Kd.V_mono (ok' := fun k_ => k_ ≠ gb244 ∧ k_ ≠ gb245 ∧ k_ ≠ gb246 ∧ k_ ≠ gb247) ho29 (fun k_ hk_ => ⟨(Kd.freshB (g := gb244) (o := .cells #[.int .i64 a0_0, .int .i64 a0_1, .int .i64 a0_2, .int .i64 a0_3, .string a0_4, .string a0_5] 36 (0, 0)) (pl BK244.out) k_ hk_), (Kd.freshB (g := gb245) (o := .cells #[.int .i64 a1_0, .int .i64 a1_1, .int .i64 a1_2, .int .i64 a1_3, .string a1_4, .string a1_5] 36 (0, 0)) (pl BK245.out) k_ hk_), (Kd.freshB (g := gb246) (o := .cells #[.int .i64 0, .int .i64 0, .int .i64 0, .int .i64 0] 34 (0, 0)) (pl BK246.out) k_ hk_), (Kd.freshB (g := gb247) (o := .cells #[.int .i64 0, .int .i64 x248001_2, .int .i64 x248002_2, .int .i64 0] 34 (0, 0)) (pl BK247.out) k_ hk_)⟩)) (below_size (by repeat (first | (with_reducible first | exact HB.out | apply below_alloc | apply pw_below_drewN | apply below_drew1 | refine below_set ?_ GE244.out | refine below_set ?_ GE245.out | refine below_set ?_ GE246.out | refine below_set ?_ GE247.out) | exact HB.out))))
             have n1_ := Aside0.mk (blk_below (pl BK244.out) hb)
             have n2_ := Aside0.mk (blk_below (pl BK245.out) hb)
             have n3_ := Aside0.mk (blk_below (pl BK246.out) hb)
             have n4_ := Aside0.mk (blk_below (pl BK247.out) hb)
             have n5_ := Aside0.mk (below_step (by repeat (first | (with_reducible first | exact HB.out | apply below_alloc | apply pw_below_drewN | apply below_drew1 | refine below_set ?_ GE244.out | refine below_set ?_ GE245.out | refine below_set ?_ GE246.out | refine below_set ?_ GE247.out) | exact HB.out)) hb)
             clear BK244; clear BK245; clear BK246; clear BK247; clear HB; have HO251 := n0_; have BK244 := n1_; have BK245 := n2_; have BK246 := n3_; have BK247 := n4_; have HB := n5_; clear n0_ n1_ n2_ n3_ n4_ n5_; clear hb ho29
             obtain ⟨Ao30, co30, eo30⟩ := Kd.V_slice HO251.out
             (first | subst eo30 | (injection eo30 with f1_ f2_ f3_; have f4_ := f1_.symm; have f5_ := f3_.symm; clear f1_ f2_ f3_; subst f4_; subst f5_))
             refine hK.out _ _ ⟨(blk_cell BK244.out 0).trans rfl, (blk_cell BK244.out 1).trans rfl, (blk_cell BK244.out 2).trans rfl, (blk_cell BK244.out 3).trans rfl, (blk_cell BK244.out 4).trans rfl, (blk_cell BK244.out 5).trans rfl, (blk_cell BK245.out 0).trans rfl, (blk_cell BK245.out 1).trans rfl, (blk_cell BK245.out 2).trans rfl, (blk_cell BK245.out 3).trans rfl, (blk_cell BK245.out 4).trans rfl, (blk_cell BK245.out 5).trans rfl⟩ (fun hHeld => ?_)
             clear hK K
             refine norm_ (a' := ?_) ?_ ?_
             rotate_left
             ·show Act.put _ (some 36) _ = _
              simp only [Act.put, List.setIfInBounds_toArray, List.set_cons_zero, List.set_cons_succ, i64_w, i32_w]
              rfl
             refine one_ (i := 14) (N := some 37) #[true, true, true, true, true, true, true, true, true, true, true, true, true, true, true, false] rfl rfl (one_of HT_.out (by kernel_rfl)) (by decide) (fun K hK => ?_)
             refine goes_ Tryd.func54 (by kernel_rfl) rfl #[.slice Ao30 y249.length co30] (by rfl) rfl rfl (by (try simp only [List.map_toArray, List.map_cons, List.map_nil]); first | done | rfl | (simp only [List.length_drop, List.length_take]; rfl)) ?_
             with_reducible refine (octet_Value.calls k2 _ _ y249 t252 _ ?side1 ?side2 ?side3 A20.out).mono ?_
             (case side1 => first | (with_reducible exact HG.out) | exact Glob.Globs_below HG.out (by repeat (first | (with_reducible first | exact HB.out | apply below_alloc | apply pw_below_drewN | apply below_drew1 | refine below_set ?_ GE244.out | refine below_set ?_ GE245.out | refine below_set ?_ GE246.out | refine below_set ?_ GE247.out) | exact HB.out)))
             (case side2 => repeat (first | exact (Kd.V_reads' HO251.out).2.2 | (with_reducible refine Kd.C_alloc ?_ _) | (with_reducible refine Kd.C_drewN ?_ _) | (with_reducible refine Kd.C_drew ?_)))
             (case side3 => exact (Kd.V_reads' HO251.out).2.1)
             rintro e w31 ⟨rfl, hb⟩
             refine ⟨_, rfl, ?_⟩
             have n0_ := Aside0.mk (Kd.V_below (by (with_reducible repeat (first | apply Kd.V_alloc | apply Kd.V_drewN | apply Kd.V_drew)); exact HO251.out) hb)
             have n1_ := Aside0.mk (blk_below (pl BK244.out) hb)
             have n2_ := Aside0.mk (blk_below (pl BK245.out) hb)
             have n3_ := Aside0.mk (blk_below (pl BK246.out) hb)
             have n4_ := Aside0.mk (blk_below (pl BK247.out) hb)
             have n5_ := Aside0.mk (below_step (by repeat (first | (with_reducible first | exact HB.out | apply below_alloc | apply pw_below_drewN | apply below_drew1 | refine below_set ?_ GE244.out | refine below_set ?_ GE245.out | refine below_set ?_ GE246.out | refine below_set ?_ GE247.out) | exact HB.out)) hb)
             clear HO251; clear BK244; clear BK245; clear BK246; clear BK247; clear HB; have HO251 := n0_; have BK244 := n1_; have BK245 := n2_; have BK246 := n3_; have BK247 := n4_; have HB := n5_; clear n0_ n1_ n2_ n3_ n4_ n5_
             (try clear hb)
             (try clear hb2)
             (try clear hk)
             (try clear hi)
             refine hK.out _ _ ⟨(blk_cell BK244.out 0).trans rfl, (blk_cell BK244.out 1).trans rfl, (blk_cell BK244.out 2).trans rfl, (blk_cell BK244.out 3).trans rfl, (blk_cell BK244.out 4).trans rfl, (blk_cell BK244.out 5).trans rfl, (blk_cell BK245.out 0).trans rfl, (blk_cell BK245.out 1).trans rfl, (blk_cell BK245.out 2).trans rfl, (blk_cell BK245.out 3).trans rfl, (blk_cell BK245.out 4).trans rfl, (blk_cell BK245.out 5).trans rfl⟩ (fun hHeld => ?_)
             clear hK K
             refine norm_ (a' := ?_) ?_ ?_
             rotate_left
             ·show Act.put _ (some 37) _ = _
              simp only [Act.put, List.setIfInBounds_toArray, List.set_cons_zero, List.set_cons_succ, i64_w, i32_w]
              rfl
             refine pure_ (i := 15) (N := some 8) (v := ?_) (a' := ?_) #[true, true, true, true, true, true, true, true, true, true, true, true, true, true, true, true] rfl rfl (any_of HT_.out (by kernel_rfl)) (fun _ _ _ h => h) (Or.inl ⟨by rfl, ?_⟩) ?_ ?_
             rotate_left
             ·intro w'
              go_simp
              with_reducible rfl
             rotate_left
             ·simp only [Act.put, List.setIfInBounds_toArray, List.set_cons_zero, List.set_cons_succ, i64_w, i32_w]
              rfl
             refine done_ (done_of HT_.out (by kernel_rfl)) ?_
             have hnb32 := NB247_244.out; have hnc32 := NB244_247.out; have hnb33 := NB247_246.out; have hnc33 := NB246_247.out; obtain ⟨hcz34_0, hcz34_1, hcz34_2, hcz34_3⟩ := cl4 BK247.out; obtain ⟨hfz34_0, hfz34_1, hfz34_2, hfz34_3⟩ := fl4 BK247.out
             try go_wp2_with (first | ((with_reducible refine gate_callee (f := 42) rfl ?_); refine goesL_ (some 49) rfl rfl Tryd.func42 (by kernel_rfl) rfl #[.int .i32 t252] rfl (by (try simp only [List.map_toArray, List.map_cons, List.map_nil]); first | done | rfl | (simp only [List.length_drop, List.length_take]; rfl)) ?_; (with_reducible refine (weld_units.calls t252 t253 _ A22.out).mono ?_); rintro e w' ⟨rfl, ⟨nd, rfl⟩⟩; refine ⟨_, rfl, ?_⟩))
             go_roundg k2
             case measure => have := HK1.out; have := HK2.out; omega
             case rel => exact ⟨(wrap64 (x7_2 + 1)), (wrap64 ((wrap64 (x6_1 + x7_2)) - 1)), (wrap64 ((wrap64 (x6_1 + x7_2)) - t253)), (by first | rfl | (simp; done) | (simp [*]; done)), H', ⟨by have := HK1.out; have := HK2.out; omega⟩, ⟨by refine pl ?_; refine blk_far ?_ NB244_247.out _; refine pl ?_; refine blk_far ?_ NB244_247.out _; refine pl ?_; exact BK244.out⟩, ⟨by refine pl ?_; refine blk_far ?_ NB245_247.out _; refine pl ?_; refine blk_far ?_ NB245_247.out _; refine pl ?_; exact BK245.out⟩, ⟨by refine pl ?_; refine blk_far ?_ NB246_247.out _; refine pl ?_; refine blk_far ?_ NB246_247.out _; refine pl ?_; exact BK246.out⟩, ⟨by refine pl ?_; refine blk_put (cs := #[.int .i64 0, .int .i64 (wrap64 ((wrap64 (x6_1 + x7_2)) - 1)), .int .i64 x248002_2, .int .i64 0]) ?_ 2 _ rfl; refine pl ?_; refine blk_put (cs := #[.int .i64 0, .int .i64 x248001_2, .int .i64 x248002_2, .int .i64 0]) ?_ 1 _ rfl; refine pl ?_; exact BK247.out⟩, ⟨by repeat (first | (with_reducible first | exact HB.out | apply below_alloc | apply pw_below_drewN | apply below_drew1 | refine below_set ?_ GE244.out | refine below_set ?_ GE245.out | refine below_set ?_ GE246.out | refine below_set ?_ GE247.out) | exact HB.out)⟩⟩
            ·rw [if_neg c21] at H
             have c21b0 : decide (0 ≤ t252) = false := decide_eq_false c21
             clear c21; have H' := Aside0.mk H; clear H; have hnb35 := NB245_244.out; have hnc35 := NB244_245.out; have hnb36 := NB245_246.out; have hnc36 := NB246_245.out; have hnb37 := NB245_247.out; have hnc37 := NB247_245.out; obtain ⟨hcz38_0, hcz38_1, hcz38_2, hcz38_3, hcz38_4, hcz38_5⟩ := cl6 BK245.out; obtain ⟨hfz38_0, hfz38_1, hfz38_2, hfz38_3, hfz38_4, hfz38_5⟩ := fl6 BK245.out
             try go_wp2
             have n0_ := Aside0.mk (blk_drew BK244.out)
             have n1_ := Aside0.mk (blk_drew BK245.out)
             have n2_ := Aside0.mk (blk_drew BK246.out)
             have n3_ := Aside0.mk (blk_drew BK247.out)
             have n4_ := Aside0.mk (below_drew1 HB.out)
             clear BK244; clear BK245; clear BK246; clear BK247; clear HB; have BK244 := n0_; have BK245 := n1_; have BK246 := n2_; have BK247 := n3_; have HB := n4_; clear n0_ n1_ n2_ n3_ n4_
             refine start_ (n := 16) (S := fun w' => w'.cell? ⟨gb244, 0, none⟩ = some (.int .i64 a0_0) ∧ w'.cell? ⟨gb244, 1, none⟩ = some (.int .i64 a0_1) ∧ w'.cell? ⟨gb244, 2, none⟩ = some (.int .i64 a0_2) ∧ w'.cell? ⟨gb244, 3, none⟩ = some (.int .i64 a0_3) ∧ w'.cell? ⟨gb244, 4, none⟩ = some (.string a0_4) ∧ w'.cell? ⟨gb244, 5, none⟩ = some (.string a0_5) ∧ w'.cell? ⟨gb245, 0, none⟩ = some (.int .i64 a1_0) ∧ w'.cell? ⟨gb245, 1, none⟩ = some (.int .i64 a1_1) ∧ w'.cell? ⟨gb245, 2, none⟩ = some (.int .i64 a1_2) ∧ w'.cell? ⟨gb245, 3, none⟩ = some (.int .i64 a1_3) ∧ w'.cell? ⟨gb245, 4, none⟩ = some (.string a1_4) ∧ w'.cell? ⟨gb245, 5, none⟩ = some (.string a1_5)) (ds := []) #[false, false, false, false, false, false, false, false, false, false, false, false, false, false, false, false] (by kernel_rfl) rfl rfl ⟨(blk_cell BK244.out 0).trans rfl, (blk_cell BK244.out 1).trans rfl, (blk_cell BK244.out 2).trans rfl, (blk_cell BK244.out 3).trans rfl, (blk_cell BK244.out 4).trans rfl, (blk_cell BK244.out 5).trans rfl, (blk_cell BK245.out 0).trans rfl, (blk_cell BK245.out 1).trans rfl, (blk_cell BK245.out 2).trans rfl, (blk_cell BK245.out 3).trans rfl, (blk_cell BK245.out 4).trans rfl, (blk_cell BK245.out 5).trans rfl⟩ (fun hHeld => ?_); refine with_tabW weld_seam.tab8 weld_seam.bits8 (fun HT_ HW_ => ?_)
             generalize wr.drew = w39 at BK244 BK245 BK246 BK247 HB hHeld ⊢
             refine pure_ (i := 0) (N := some 23) (v := ?_) (a' := ?_) #[true, false, false, false, false, false, false, false, false, false, false, false, false, false, false, false] rfl rfl (any_of HT_.out (by kernel_rfl)) (fun _ _ _ h => h) (Or.inl ⟨by rfl, ?_⟩) ?_ ?_
             rotate_left
             ·intro w'
              go_simp
              with_reducible rfl
             rotate_left
             ·simp only [Act.put, List.setIfInBounds_toArray, List.set_cons_zero, List.set_cons_succ, i64_w, i32_w]
              rfl
             refine pure_ (i := 2) (N := some 25) (v := ?_) (a' := ?_) #[true, false, true, false, false, false, false, false, false, false, false, false, false, false, false, false] rfl rfl (any_of HT_.out (by kernel_rfl)) (fun _ _ _ h => h) (Or.inl ⟨by rfl, ?_⟩) ?_ ?_
             rotate_left
             ·intro w'
              go_simp
              with_reducible rfl
             rotate_left
             ·simp only [Act.put, List.setIfInBounds_toArray, List.set_cons_zero, List.set_cons_succ, i64_w, i32_w]
              rfl
             refine pure_ (i := 5) (N := some 28) (v := ?_) (a' := ?_) #[true, false, true, false, false, true, false, false, false, false, false, false, false, false, false, false] rfl rfl (any_of HT_.out (by kernel_rfl)) (fun _ _ _ h => h) (Or.inl ⟨by rfl, ?_⟩) ?_ ?_
             rotate_left
             ·intro w'
              go_simp
              with_reducible rfl
             rotate_left
             ·simp only [Act.put, List.setIfInBounds_toArray, List.set_cons_zero, List.set_cons_succ, i64_w, i32_w]
              rfl
             refine pure_ (i := 8) (N := some 31) (v := ?_) (a' := ?_) #[true, false, true, false, false, true, false, false, true, false, false, false, false, false, false, false] rfl rfl (any_of HT_.out (by kernel_rfl)) (fun _ _ _ h => h) (Or.inl ⟨by rfl, ?_⟩) ?_ ?_
             rotate_left
             ·intro w'
              go_simp
              with_reducible rfl
             rotate_left
             ·simp only [Act.put, List.setIfInBounds_toArray, List.set_cons_zero, List.set_cons_succ, i64_w, i32_w]
              rfl
             refine pure_ (i := 10) (N := some 33) (v := ?_) (a' := ?_) #[true, false, true, false, false, true, false, false, true, false, true, false, false, false, false, false] rfl rfl (any_of HT_.out (by kernel_rfl)) (fun _ _ _ h => h) (Or.inl ⟨by rfl, ?_⟩) ?_ ?_
             rotate_left
             ·intro w'
              go_simp
              with_reducible rfl
             rotate_left
             ·simp only [Act.put, List.setIfInBounds_toArray, List.set_cons_zero, List.set_cons_succ, i64_w, i32_w]
              rfl
             refine take_ (i := 1) (N := some 24) (v := ?_) (a' := ?_) #[true, true, true, false, false, true, false, false, true, false, true, false, false, false, false, false] rfl rfl (take_ofW HT_.out HW_.out (by kernel_rfl)) (fun _ _ _ h => h) (Or.inl ⟨by rfl, ?_⟩) hHeld ?_ ?_
             rotate_left
             ·rintro w' ⟨s0, s1, s2, s3, s4, s5, s6, s7, s8, s9, s10, s11⟩
              go_simp
              with_reducible rfl
             rotate_left
             ·simp only [Act.put, List.setIfInBounds_toArray, List.set_cons_zero, List.set_cons_succ, i64_w, i32_w]
              rfl
             refine take_ (i := 3) (N := some 26) (v := ?_) (a' := ?_) #[true, true, true, true, false, true, false, false, true, false, true, false, false, false, false, false] rfl rfl (take_ofW HT_.out HW_.out (by kernel_rfl)) (fun _ _ _ h => h) (Or.inl ⟨by rfl, ?_⟩) hHeld ?_ ?_
             rotate_left
             ·rintro w' ⟨s0, s1, s2, s3, s4, s5, s6, s7, s8, s9, s10, s11⟩
              go_simp
              with_reducible rfl
             rotate_left
             ·simp only [Act.put, List.setIfInBounds_toArray, List.set_cons_zero, List.set_cons_succ, i64_w, i32_w]
              rfl
             refine pure_ (i := 4) (N := some 27) (v := ?_) (a' := ?_) #[true, true, true, true, true, true, false, false, true, false, true, false, false, false, false, false] rfl rfl (any_of HT_.out (by kernel_rfl)) (fun _ _ _ h => h) (Or.inl ⟨by rfl, ?_⟩) ?_ ?_
             rotate_left
             ·intro w'
              go_simp
              with_reducible rfl
             rotate_left
             ·simp only [Act.put, List.setIfInBounds_toArray, List.set_cons_zero, List.set_cons_succ, i64_w, i32_w]
              rfl
             refine pure_ (i := 6) (N := some 29) (v := ?_) (a' := ?_) #[true, true, true, true, true, true, true, false, true, false, true, false, false, false, false, false] rfl rfl (any_of HT_.out (by kernel_rfl)) (fun _ _ _ h => h) (Or.inl ⟨by rfl, ?_⟩) ?_ ?_
             rotate_left
             ·intro w'
              go_simp
              with_reducible rfl
             rotate_left
             ·simp only [Act.put, List.setIfInBounds_toArray, List.set_cons_zero, List.set_cons_succ, i64_w, i32_w]
              rfl
             refine pure_ (i := 7) (N := some 30) (v := ?_) (a' := ?_) #[true, true, true, true, true, true, true, true, true, false, true, false, false, false, false, false] rfl rfl (any_of HT_.out (by kernel_rfl)) (fun _ _ _ h => h) (Or.inl ⟨by rfl, ?_⟩) ?_ ?_
             rotate_left
             ·intro w'
              go_simp
              with_reducible rfl
             rotate_left
             ·simp only [Act.put, List.setIfInBounds_toArray, List.set_cons_zero, List.set_cons_succ, i64_w, i32_w]
              rfl
             refine take_ (i := 9) (N := some 32) (v := ?_) (a' := ?_) #[true, true, true, true, true, true, true, true, true, true, true, false, false, false, false, false] rfl rfl (take_ofW HT_.out HW_.out (by kernel_rfl)) (fun _ _ _ h => h) (Or.inl ⟨by rfl, ?_⟩) hHeld ?_ ?_
             rotate_left
             ·rintro w' ⟨s0, s1, s2, s3, s4, s5, s6, s7, s8, s9, s10, s11⟩
              go_simp
              with_reducible rfl
             rotate_left
             ·simp only [Act.put, List.setIfInBounds_toArray, List.set_cons_zero, List.set_cons_succ, i64_w, i32_w]
              rfl
             refine pure_ (i := 11) (N := some 34) (v := ?_) (a' := ?_) #[true, true, true, true, true, true, true, true, true, true, true, true, false, false, false, false] rfl rfl (any_of HT_.out (by kernel_rfl)) (fun _ _ _ h => h) (Or.inl ⟨by rfl, ?_⟩) ?_ ?_
             rotate_left
             ·intro w'
              go_simp
              with_reducible rfl
             rotate_left
             ·simp only [Act.put, List.setIfInBounds_toArray, List.set_cons_zero, List.set_cons_succ, i64_w, i32_w]
              rfl
             refine pure_ (i := 12) (N := some 35) (v := ?_) (a' := ?_) #[true, true, true, true, true, true, true, true, true, true, true, true, true, false, false, false] rfl rfl (any_of HT_.out (by kernel_rfl)) (fun _ _ _ h => h) (Or.inl ⟨by rfl, ?_⟩) ?_ ?_
             rotate_left
             ·intro w'
              go_simp
              with_reducible rfl
             rotate_left
             ·simp only [Act.put, List.setIfInBounds_toArray, List.set_cons_zero, List.set_cons_succ, i64_w, i32_w]
              rfl
             refine one_ (i := 13) (N := some 36) #[true, true, true, true, true, true, true, true, true, true, true, true, true, true, false, false] rfl rfl (one_of HT_.out (by kernel_rfl)) (by decide) (fun K hK => ?_)
             refine Kd.V_bytes_step _ 5 ?hg (N := 36) ?hd (s := ((a0_5.extract ((ji13) : Int).toNat a0_5.size) ++ (a1_4.extract 0 (x7_2 : Int).toNat))) (ok := fun k_ => w39.heap.size ≤ k_) rfl ?hx Tryd.underlying9 Tryd.underlying26 Tryd.underlying5 (Nat.le_refl _) (Below.refl _ _) (Nat.le_refl _) (of_decide_eq_true (by first | (with_reducible assumption) | assumption)) ?_; (case hd => rfl); (case hg => rfl); (case hx => first | rfl | (go_simp; done) | (go_simp; rfl))
             intro v250 w40 ho41 hb hg_ hnew_
             clear hg_ hnew_
             (first | rw [← Ny249.out] at ho41 | (simp only [Int.reduceToNat] at ho41; rw [← Ny249.out] at ho41))
             have n0_ := Aside0.mk (Kd.V_lower (Kd.V_mono (ok' := fun k_ => k_ ≠ gb244 ∧ k_ ≠ gb245 ∧ k_ ≠ gb246 ∧ k_ ≠ gb247) ho41 (fun k_ hk_ => ⟨(Kd.freshB (g := gb244) (o := .cells #[.int .i64 a0_0, .int .i64 a0_1, .int .i64 a0_2, .int .i64 a0_3, .string a0_4, .string a0_5] 36 (0, 0)) (pl BK244.out) k_ hk_), (Kd.freshB (g := gb245) (o := .cells #[.int .i64 a1_0, .int .i64 a1_1, .int .i64 a1_2, .int .i64 a1_3, .string a1_4, .string a1_5] 36 (0, 0)) (pl BK245.out) k_ hk_), (Kd.freshB (g := gb246) (o := .cells #[.int .i64 0, .int .i64 0, .int .i64 0, .int .i64 0] 34 (0, 0)) (pl BK246.out) k_ hk_), (Kd.freshB (g := gb247) (o := .cells #[.int .i64 0, .int .i64 x248001_2, .int .i64 x248002_2, .int .i64 0] 34 (0, 0)) (pl BK247.out) k_ hk_)⟩)) (below_size (by repeat (first | (with_reducible first | exact HB.out | apply below_alloc | apply pw_below_drewN | apply below_drew1 | refine below_set ?_ GE244.out | refine below_set ?_ GE245.out | refine below_set ?_ GE246.out | refine below_set ?_ GE247.out) | exact HB.out))))
             have n1_ := Aside0.mk (blk_below (pl BK244.out) hb)
             have n2_ := Aside0.mk (blk_below (pl BK245.out) hb)
             have n3_ := Aside0.mk (blk_below (pl BK246.out) hb)
             have n4_ := Aside0.mk (blk_below (pl BK247.out) hb)
             have n5_ := Aside0.mk (below_step (by repeat (first | (with_reducible first | exact HB.out | apply below_alloc | apply pw_below_drewN | apply below_drew1 | refine below_set ?_ GE244.out | refine below_set ?_ GE245.out | refine below_set ?_ GE246.out | refine below_set ?_ GE247.out) | exact HB.out)) hb)
             clear BK244; clear BK245; clear BK246; clear BK247; clear HB; have HO251 := n0_; have BK244 := n1_; have BK245 := n2_; have BK246 := n3_; have BK247 := n4_; have HB := n5_; clear n0_ n1_ n2_ n3_ n4_ n5_; clear hb ho41
             obtain ⟨Ao42, co42, eo42⟩ := Kd.V_slice HO251.out
             (first | subst eo42 | (injection eo42 with f1_ f2_ f3_; have f4_ := f1_.symm; have f5_ := f3_.symm; clear f1_ f2_ f3_; subst f4_; subst f5_))
             refine hK.out _ _ ⟨(blk_cell BK244.out 0).trans rfl, (blk_cell BK244.out 1).trans rfl, (blk_cell BK244.out 2).trans rfl, (blk_cell BK244.out 3).trans rfl, (blk_cell BK244.out 4).trans rfl, (blk_cell BK244.out 5).trans rfl, (blk_cell BK245.out 0).trans rfl, (blk_cell BK245.out 1).trans rfl, (blk_cell BK245.out 2).trans rfl, (blk_cell BK245.out 3).trans rfl, (blk_cell BK245.out 4).trans rfl, (blk_cell BK245.out 5).trans rfl⟩ (fun hHeld => ?_)
             clear hK K
             refine norm_ (a' := ?_) ?_ ?_
             rotate_left
             ·show Act.put _ (some 36) _ = _
              simp only [Act.put, List.setIfInBounds_toArray, List.set_cons_zero, List.set_cons_succ, i64_w, i32_w]
              rfl
             refine one_ (i := 14) (N := some 37) #[true, true, true, true, true, true, true, true, true, true, true, true, true, true, true, false] rfl rfl (one_of HT_.out (by kernel_rfl)) (by decide) (fun K hK => ?_)
             refine goes_ Tryd.func54 (by kernel_rfl) rfl #[.slice Ao42 y249.length co42] (by rfl) rfl rfl (by (try simp only [List.map_toArray, List.map_cons, List.map_nil]); first | done | rfl | (simp only [List.length_drop, List.length_take]; rfl)) ?_
             with_reducible refine (octet_Value.calls k2 _ _ y249 t252 _ ?side1 ?side2 ?side3 A20.out).mono ?_
             (case side1 => first | (with_reducible exact HG.out) | exact Glob.Globs_below HG.out (by repeat (first | (with_reducible first | exact HB.out | apply below_alloc | apply pw_below_drewN | apply below_drew1 | refine below_set ?_ GE244.out | refine below_set ?_ GE245.out | refine below_set ?_ GE246.out | refine below_set ?_ GE247.out) | exact HB.out)))
             (case side2 => repeat (first | exact (Kd.V_reads' HO251.out).2.2 | (with_reducible refine Kd.C_alloc ?_ _) | (with_reducible refine Kd.C_drewN ?_ _) | (with_reducible refine Kd.C_drew ?_)))
             (case side3 => exact (Kd.V_reads' HO251.out).2.1)
             rintro e w43 ⟨rfl, hb⟩
             refine ⟨_, rfl, ?_⟩
             have n0_ := Aside0.mk (Kd.V_below (by (with_reducible repeat (first | apply Kd.V_alloc | apply Kd.V_drewN | apply Kd.V_drew)); exact HO251.out) hb)
             have n1_ := Aside0.mk (blk_below (pl BK244.out) hb)
             have n2_ := Aside0.mk (blk_below (pl BK245.out) hb)
             have n3_ := Aside0.mk (blk_below (pl BK246.out) hb)
             have n4_ := Aside0.mk (blk_below (pl BK247.out) hb)
             have n5_ := Aside0.mk (below_step (by repeat (first | (with_reducible first | exact HB.out | apply below_alloc | apply pw_below_drewN | apply below_drew1 | refine below_set ?_ GE244.out | refine below_set ?_ GE245.out | refine below_set ?_ GE246.out | refine below_set ?_ GE247.out) | exact HB.out)) hb)
             clear HO251; clear BK244; clear BK245; clear BK246; clear BK247; clear HB; have HO251 := n0_; have BK244 := n1_; have BK245 := n2_; have BK246 := n3_; have BK247 := n4_; have HB := n5_; clear n0_ n1_ n2_ n3_ n4_ n5_
             (try clear hb)
             (try clear hb2)
             (try clear hk)
             (try clear hi)
             refine hK.out _ _ ⟨(blk_cell BK244.out 0).trans rfl, (blk_cell BK244.out 1).trans rfl, (blk_cell BK244.out 2).trans rfl, (blk_cell BK244.out 3).trans rfl, (blk_cell BK244.out 4).trans rfl, (blk_cell BK244.out 5).trans rfl, (blk_cell BK245.out 0).trans rfl, (blk_cell BK245.out 1).trans rfl, (blk_cell BK245.out 2).trans rfl, (blk_cell BK245.out 3).trans rfl, (blk_cell BK245.out 4).trans rfl, (blk_cell BK245.out 5).trans rfl⟩ (fun hHeld => ?_)
             clear hK K
             refine norm_ (a' := ?_) ?_ ?_
             rotate_left
             ·show Act.put _ (some 37) _ = _
              simp only [Act.put, List.setIfInBounds_toArray, List.set_cons_zero, List.set_cons_succ, i64_w, i32_w]
              rfl
             refine pure_ (i := 15) (N := some 8) (v := ?_) (a' := ?_) #[true, true, true, true, true, true, true, true, true, true, true, true, true, true, true, true] rfl rfl (any_of HT_.out (by kernel_rfl)) (fun _ _ _ h => h) (Or.inl ⟨by rfl, ?_⟩) ?_ ?_
             rotate_left
             ·intro w'
              go_simp
              with_reducible rfl
             rotate_left
             ·simp only [Act.put, List.setIfInBounds_toArray, List.set_cons_zero, List.set_cons_succ, i64_w, i32_w]
              rfl
             refine done_ (done_of HT_.out (by kernel_rfl)) ?_
             try go_wp2
             go_roundg k2
             case measure => have := HK1.out; have := HK2.out; omega
             case rel => exact ⟨(wrap64 (x7_2 + 1)), (x248001_2), (x248002_2), (by first | rfl | (simp; done) | (simp [*]; done)), H', ⟨by have := HK1.out; have := HK2.out; omega⟩, ⟨pl BK244.out⟩, ⟨pl BK245.out⟩, ⟨pl BK246.out⟩, ⟨pl BK247.out⟩, ⟨by repeat (first | (with_reducible first | exact HB.out | apply below_alloc | apply pw_below_drewN | apply below_drew1 | refine below_set ?_ GE244.out | refine below_set ?_ GE245.out | refine below_set ?_ GE246.out | refine below_set ?_ GE247.out) | exact HB.out)⟩⟩
           ·rw [if_neg c19] at H
            exact absurd H (by simp)
          ·rw [if_neg c18] at H
           exact absurd H (by simp)
         ·rw [if_neg c16] at H
          exact absurd H (by simp)
        ·rw [if_neg c15] at H
         exact absurd H (by simp)
       ·rw [if_neg c14] at H
        exact absurd H (by simp)
      ·rw [if_neg c12] at H
       have c12b0 : decide (x7_2 ≤ (a1_4.size : Int)) = false := decide_eq_false c12
       clear c12; have H' := Aside0.mk H; clear H; have hnb44 := NB245_244.out; have hnc44 := NB244_245.out; have hnb45 := NB245_246.out; have hnc45 := NB246_245.out; have hnb46 := NB245_247.out; have hnc46 := NB247_245.out; obtain ⟨hcz47_0, hcz47_1, hcz47_2, hcz47_3, hcz47_4, hcz47_5⟩ := cl6 BK245.out; obtain ⟨hfz47_0, hfz47_1, hfz47_2, hfz47_3, hfz47_4, hfz47_5⟩ := fl6 BK245.out
       go_wp2
       go_roundg k2
       case measure => have := HK1.out; have := HK2.out; omega
       case rel => exact ⟨(wrap64 (x6_1 + 1)), (x248001_2), (x248002_2), (by first | rfl | (simp; done) | (simp [*]; done)), H', ⟨by have := HK1.out; have := HK2.out; omega⟩, ⟨pl BK244.out⟩, ⟨pl BK245.out⟩, ⟨pl BK246.out⟩, ⟨pl BK247.out⟩, ⟨by repeat (first | (with_reducible first | exact HB.out | apply below_alloc | apply pw_below_drewN | apply below_drew1 | refine below_set ?_ GE244.out | refine below_set ?_ GE245.out | refine below_set ?_ GE246.out | refine below_set ?_ GE247.out) | exact HB.out)⟩⟩
   ·rw [if_neg c7] at H
    have c7b0 : decide (x6_1 ≤ (a0_5.size : Int)) = false := decide_eq_false c7
    clear c7
    replace H := Option.bind_eq_some_iff.mp H
    obtain ⟨t248, A480, H⟩ := H
    have A48 := Aside0.mk A480; clear A480
    by_cases c49 : t248 = true
    ·subst c49
     have H1 := H; rw [if_pos rfl] at H1
     clear H; have H := H1; clear H1
     by_cases c50 : (a1_4.size : Int) > 0
     ·rw [if_pos c50] at H
      have c50b0 : decide (0 < (a1_4.size : Int)) = true := decide_eq_true c50
      have c50b1 : decide (0 < a1_4.size) = true := decide_eq_true (by omega)
      clear c50
      by_cases c51 : 0 < (a1_4.size : Int)
      ·rw [if_pos c51] at H
       have c51b0 : decide (0 < (a1_4.size : Int)) = true := decide_eq_true c51
       have c51b1 : decide (0 < a1_4.size) = true := decide_eq_true (by omega)
       clear c51
       by_cases c53 : (bt a1_4 0) = 10
       ·rw [if_pos c53] at H
        have c53b0 : ((bt a1_4 0) == 10) = true := beq_iff_eq.mpr c53
        have c53b1 : ((bt a1_4 0) != 10) = false := bne_eq_false_iff_eq.mpr c53
        clear c53
        simp only [Option.some.injEq, Prod.mk.injEq] at H
        obtain ⟨rfl, rfl, rfl, rfl⟩ := H
        have hnb54 := NB244_245.out; have hnc54 := NB245_244.out; have hnb55 := NB244_246.out; have hnc55 := NB246_244.out; have hnb56 := NB244_247.out; have hnc56 := NB247_244.out; obtain ⟨hcz57_0, hcz57_1, hcz57_2, hcz57_3, hcz57_4, hcz57_5⟩ := cl6 BK244.out; obtain ⟨hfz57_0, hfz57_1, hfz57_2, hfz57_3, hfz57_4, hfz57_5⟩ := fl6 BK244.out
        go_wp2_with (first | ((with_reducible refine gate_callee (f := 55) rfl ?_); refine goesL_ (some 54) rfl rfl Tryd.func55 (by kernel_rfl) rfl #[.string a0_5, .int .u8 13] rfl (by (try simp only [List.map_toArray, List.map_cons, List.map_nil]); first | done | rfl | (simp only [List.length_drop, List.length_take]; rfl)) ?_; (with_reducible refine (weld_tailIs.calls a0_5 13 true _ A48.out).mono ?_); rintro e w' ⟨rfl, ⟨nd, rfl⟩⟩; refine ⟨_, rfl, ?_⟩; (try (rw [drewN_self wr]; generalize hq_ : World.drewN wr _ = wr; have n0_ : Aside0 (wr.heap[gb244]? = some (.cells #[.int .i64 a0_0, .int .i64 a0_1, .int .i64 a0_2, .int .i64 a0_3, .string a0_4, .string a0_5] 36 (0, 0))) := ⟨by rw [← hq_]; exact (pl BK244.out)⟩; have n1_ : Aside0 (wr.heap[gb245]? = some (.cells #[.int .i64 a1_0, .int .i64 a1_1, .int .i64 a1_2, .int .i64 a1_3, .string a1_4, .string a1_5] 36 (0, 0))) := ⟨by rw [← hq_]; exact (pl BK245.out)⟩; have n2_ : Aside0 (wr.heap[gb246]? = some (.cells #[.int .i64 0, .int .i64 0, .int .i64 0, .int .i64 0] 34 (0, 0))) := ⟨by rw [← hq_]; exact (pl BK246.out)⟩; have n3_ : Aside0 (wr.heap[gb247]? = some (.cells #[.int .i64 0, .int .i64 x248001_1, .int .i64 x248002_1, .int .i64 0] 34 (0, 0))) := ⟨by rw [← hq_]; exact (pl BK247.out)⟩; have n4_ : Aside0 (Below w.heap.size w wr) := ⟨by rw [← hq_]; exact (by repeat (first | (with_reducible first | exact HB.out | apply below_alloc | apply pw_below_drewN | apply below_drew1 | refine below_set ?_ GE244.out | refine below_set ?_ GE245.out | refine below_set ?_ GE246.out | refine below_set ?_ GE247.out) | exact HB.out))⟩; clear BK244 BK245 BK246 BK247 HB hq_; have BK244 := n0_; have BK245 := n1_; have BK246 := n2_; have BK247 := n3_; have HB := n4_; clear n0_ n1_ n2_ n3_ n4_)); have hnb58 := NB245_246.out; have hnc58 := NB246_245.out; have hnb59 := NB245_247.out; have hnc59 := NB247_245.out; obtain ⟨hcz60_0, hcz60_1, hcz60_2, hcz60_3, hcz60_4, hcz60_5⟩ := cl6 BK245.out; obtain ⟨hfz60_0, hfz60_1, hfz60_2, hfz60_3, hfz60_4, hfz60_5⟩ := fl6 BK245.out; have p52 : 0 ≤ (0 : Int) := (by omega); have q52 : 0 < a1_4.size := (by have : (0 : Int) < (a1_4.size : Int) := of_decide_eq_true (by first | (with_reducible assumption) | assumption); omega); have hx52 : ∀ h : 0 < a1_4.size, ((a1_4[0]'h).toNat : Int) = bt a1_4 0 := bt_at a1_4 0; clear p52; have qi52 : (0 < (a1_4.size : Int)) = True := eq_true (of_decide_eq_true (by first | (with_reducible assumption) | assumption)); replace q52 := eq_true q52; have hnb61 := NB247_246.out; have hnc61 := NB246_247.out; obtain ⟨hcz62_0, hcz62_1, hcz62_2, hcz62_3⟩ := cl4 BK247.out; obtain ⟨hfz62_0, hfz62_1, hfz62_2, hfz62_3⟩ := fl4 BK247.out; obtain ⟨hcz63_0, hcz63_1, hcz63_2, hcz63_3⟩ := cl4 BK246.out; obtain ⟨hfz63_0, hfz63_1, hfz63_2, hfz63_3⟩ := fl4 BK246.out))
        refine bodyPost_ret (results_cell_row rfl _ _ gb246 34 #[.int .i64 0, .int .i64 x248001_1, .int .i64 x248002_1, .int .i64 1] (0, 0) _ rfl (by refine pl ?_; refine blk_put (cs := #[.int .i64 0, .int .i64 x248001_1, .int .i64 x248002_1, .int .i64 0]) ?_ 3 _ rfl; refine pl ?_; refine blk_put (cs := #[.int .i64 0, .int .i64 x248001_1, .int .i64 0, .int .i64 0]) ?_ 2 _ rfl; refine pl ?_; refine blk_put (cs := #[.int .i64 0, .int .i64 0, .int .i64 0, .int .i64 0]) ?_ 1 _ rfl; refine pl ?_; refine blk_put (cs := #[.int .i64 0, .int .i64 0, .int .i64 0, .int .i64 0]) ?_ 0 _ rfl; refine pl ?_; refine blk_far ?_ NB246_247.out _; refine pl ?_; exact BK246.out) Tryd.underlying34 rfl (by kernel_rfl)) rfl ?_
        exact ⟨by first | rfl | (simp [errW_none, errW_some] <;> rfl) | (simp [*, errW_none, errW_some] <;> rfl), by repeat (first | (with_reducible first | exact HB.out | apply below_alloc | apply pw_below_drewN | apply below_drew1 | refine below_set ?_ GE244.out | refine below_set ?_ GE245.out | refine below_set ?_ GE246.out | refine below_set ?_ GE247.out) | exact HB.out)⟩
       ·rw [if_neg c53] at H
        have c53b0 : ((bt a1_4 0) == 10) = false := beq_eq_false_iff_ne.mpr c53
        have c53b1 : ((bt a1_4 0) != 10) = true := bne_iff_ne.mpr c53
        simp only [Option.some.injEq, Prod.mk.injEq] at H
        obtain ⟨rfl, rfl, rfl, rfl⟩ := H
        have hnb64 := NB244_245.out; have hnc64 := NB245_244.out; have hnb65 := NB244_246.out; have hnc65 := NB246_244.out; have hnb66 := NB244_247.out; have hnc66 := NB247_244.out; obtain ⟨hcz67_0, hcz67_1, hcz67_2, hcz67_3, hcz67_4, hcz67_5⟩ := cl6 BK244.out; obtain ⟨hfz67_0, hfz67_1, hfz67_2, hfz67_3, hfz67_4, hfz67_5⟩ := fl6 BK244.out
        go_wp2_with (first | ((with_reducible refine gate_callee (f := 55) rfl ?_); refine goesL_ (some 54) rfl rfl Tryd.func55 (by kernel_rfl) rfl #[.string a0_5, .int .u8 13] rfl (by (try simp only [List.map_toArray, List.map_cons, List.map_nil]); first | done | rfl | (simp only [List.length_drop, List.length_take]; rfl)) ?_; (with_reducible refine (weld_tailIs.calls a0_5 13 true _ A48.out).mono ?_); rintro e w' ⟨rfl, ⟨nd, rfl⟩⟩; refine ⟨_, rfl, ?_⟩; (try (rw [drewN_self wr]; generalize hq_ : World.drewN wr _ = wr; have n0_ : Aside0 (wr.heap[gb244]? = some (.cells #[.int .i64 a0_0, .int .i64 a0_1, .int .i64 a0_2, .int .i64 a0_3, .string a0_4, .string a0_5] 36 (0, 0))) := ⟨by rw [← hq_]; exact (pl BK244.out)⟩; have n1_ : Aside0 (wr.heap[gb245]? = some (.cells #[.int .i64 a1_0, .int .i64 a1_1, .int .i64 a1_2, .int .i64 a1_3, .string a1_4, .string a1_5] 36 (0, 0))) := ⟨by rw [← hq_]; exact (pl BK245.out)⟩; have n2_ : Aside0 (wr.heap[gb246]? = some (.cells #[.int .i64 0, .int .i64 0, .int .i64 0, .int .i64 0] 34 (0, 0))) := ⟨by rw [← hq_]; exact (pl BK246.out)⟩; have n3_ : Aside0 (wr.heap[gb247]? = some (.cells #[.int .i64 0, .int .i64 x248001_1, .int .i64 x248002_1, .int .i64 0] 34 (0, 0))) := ⟨by rw [← hq_]; exact (pl BK247.out)⟩; have n4_ : Aside0 (Below w.heap.size w wr) := ⟨by rw [← hq_]; exact (by repeat (first | (with_reducible first | exact HB.out | apply below_alloc | apply pw_below_drewN | apply below_drew1 | refine below_set ?_ GE244.out | refine below_set ?_ GE245.out | refine below_set ?_ GE246.out | refine below_set ?_ GE247.out) | exact HB.out))⟩; clear BK244 BK245 BK246 BK247 HB hq_; have BK244 := n0_; have BK245 := n1_; have BK246 := n2_; have BK247 := n3_; have HB := n4_; clear n0_ n1_ n2_ n3_ n4_)); have hnb68 := NB245_246.out; have hnc68 := NB246_245.out; have hnb69 := NB245_247.out; have hnc69 := NB247_245.out; obtain ⟨hcz70_0, hcz70_1, hcz70_2, hcz70_3, hcz70_4, hcz70_5⟩ := cl6 BK245.out; obtain ⟨hfz70_0, hfz70_1, hfz70_2, hfz70_3, hfz70_4, hfz70_5⟩ := fl6 BK245.out; have p52 : 0 ≤ (0 : Int) := (by omega); have q52 : 0 < a1_4.size := (by have : (0 : Int) < (a1_4.size : Int) := of_decide_eq_true (by first | (with_reducible assumption) | assumption); omega); have hx52 : ∀ h : 0 < a1_4.size, ((a1_4[0]'h).toNat : Int) = bt a1_4 0 := bt_at a1_4 0; clear p52; have qi52 : (0 < (a1_4.size : Int)) = True := eq_true (of_decide_eq_true (by first | (with_reducible assumption) | assumption)); replace q52 := eq_true q52; have hnb71 := NB247_246.out; have hnc71 := NB246_247.out; obtain ⟨hcz72_0, hcz72_1, hcz72_2, hcz72_3⟩ := cl4 BK247.out; obtain ⟨hfz72_0, hfz72_1, hfz72_2, hfz72_3⟩ := fl4 BK247.out; obtain ⟨hcz73_0, hcz73_1, hcz73_2, hcz73_3⟩ := cl4 BK246.out; obtain ⟨hfz73_0, hfz73_1, hfz73_2, hfz73_3⟩ := fl4 BK246.out))
        refine bodyPost_ret (results_cell_row rfl _ _ gb246 34 #[.int .i64 0, .int .i64 x248001_1, .int .i64 x248002_1, .int .i64 0] (0, 0) _ rfl (by refine pl ?_; refine blk_put (cs := #[.int .i64 0, .int .i64 x248001_1, .int .i64 x248002_1, .int .i64 0]) ?_ 3 _ rfl; refine pl ?_; refine blk_put (cs := #[.int .i64 0, .int .i64 x248001_1, .int .i64 0, .int .i64 0]) ?_ 2 _ rfl; refine pl ?_; refine blk_put (cs := #[.int .i64 0, .int .i64 0, .int .i64 0, .int .i64 0]) ?_ 1 _ rfl; refine pl ?_; refine blk_put (cs := #[.int .i64 0, .int .i64 0, .int .i64 0, .int .i64 0]) ?_ 0 _ rfl; refine pl ?_; exact BK246.out) Tryd.underlying34 rfl (by kernel_rfl)) rfl ?_
        exact ⟨by first | rfl | (simp [errW_none, errW_some] <;> rfl) | (simp [*, errW_none, errW_some] <;> rfl), by repeat (first | (with_reducible first | exact HB.out | apply below_alloc | apply pw_below_drewN | apply below_drew1 | refine below_set ?_ GE244.out | refine below_set ?_ GE245.out | refine below_set ?_ GE246.out | refine below_set ?_ GE247.out) | exact HB.out)⟩
      ·rw [if_neg c51] at H
       exact absurd H (by simp)
     ·rw [if_neg c50] at H
      have c50b0 : decide (0 < (a1_4.size : Int)) = false := decide_eq_false c50
      have c50b1 : decide (0 < a1_4.size) = false := decide_eq_false (by omega)
      clear c50
      simp only [Option.some.injEq, Prod.mk.injEq] at H
      obtain ⟨rfl, rfl, rfl, rfl⟩ := H
      have hnb74 := NB244_245.out; have hnc74 := NB245_244.out; have hnb75 := NB244_246.out; have hnc75 := NB246_244.out; have hnb76 := NB244_247.out; have hnc76 := NB247_244.out; obtain ⟨hcz77_0, hcz77_1, hcz77_2, hcz77_3, hcz77_4, hcz77_5⟩ := cl6 BK244.out; obtain ⟨hfz77_0, hfz77_1, hfz77_2, hfz77_3, hfz77_4, hfz77_5⟩ := fl6 BK244.out
      go_wp2_with (first | ((with_reducible refine gate_callee (f := 55) rfl ?_); refine goesL_ (some 54) rfl rfl Tryd.func55 (by kernel_rfl) rfl #[.string a0_5, .int .u8 13] rfl (by (try simp only [List.map_toArray, List.map_cons, List.map_nil]); first | done | rfl | (simp only [List.length_drop, List.length_take]; rfl)) ?_; (with_reducible refine (weld_tailIs.calls a0_5 13 true _ A48.out).mono ?_); rintro e w' ⟨rfl, ⟨nd, rfl⟩⟩; refine ⟨_, rfl, ?_⟩; (try (rw [drewN_self wr]; generalize hq_ : World.drewN wr _ = wr; have n0_ : Aside0 (wr.heap[gb244]? = some (.cells #[.int .i64 a0_0, .int .i64 a0_1, .int .i64 a0_2, .int .i64 a0_3, .string a0_4, .string a0_5] 36 (0, 0))) := ⟨by rw [← hq_]; exact (pl BK244.out)⟩; have n1_ : Aside0 (wr.heap[gb245]? = some (.cells #[.int .i64 a1_0, .int .i64 a1_1, .int .i64 a1_2, .int .i64 a1_3, .string a1_4, .string a1_5] 36 (0, 0))) := ⟨by rw [← hq_]; exact (pl BK245.out)⟩; have n2_ : Aside0 (wr.heap[gb246]? = some (.cells #[.int .i64 0, .int .i64 0, .int .i64 0, .int .i64 0] 34 (0, 0))) := ⟨by rw [← hq_]; exact (pl BK246.out)⟩; have n3_ : Aside0 (wr.heap[gb247]? = some (.cells #[.int .i64 0, .int .i64 x248001_1, .int .i64 x248002_1, .int .i64 0] 34 (0, 0))) := ⟨by rw [← hq_]; exact (pl BK247.out)⟩; have n4_ : Aside0 (Below w.heap.size w wr) := ⟨by rw [← hq_]; exact (by repeat (first | (with_reducible first | exact HB.out | apply below_alloc | apply pw_below_drewN | apply below_drew1 | refine below_set ?_ GE244.out | refine below_set ?_ GE245.out | refine below_set ?_ GE246.out | refine below_set ?_ GE247.out) | exact HB.out))⟩; clear BK244 BK245 BK246 BK247 HB hq_; have BK244 := n0_; have BK245 := n1_; have BK246 := n2_; have BK247 := n3_; have HB := n4_; clear n0_ n1_ n2_ n3_ n4_)); have hnb78 := NB245_246.out; have hnc78 := NB246_245.out; have hnb79 := NB245_247.out; have hnc79 := NB247_245.out; obtain ⟨hcz80_0, hcz80_1, hcz80_2, hcz80_3, hcz80_4, hcz80_5⟩ := cl6 BK245.out; obtain ⟨hfz80_0, hfz80_1, hfz80_2, hfz80_3, hfz80_4, hfz80_5⟩ := fl6 BK245.out; have hnb81 := NB247_246.out; have hnc81 := NB246_247.out; obtain ⟨hcz82_0, hcz82_1, hcz82_2, hcz82_3⟩ := cl4 BK247.out; obtain ⟨hfz82_0, hfz82_1, hfz82_2, hfz82_3⟩ := fl4 BK247.out; obtain ⟨hcz83_0, hcz83_1, hcz83_2, hcz83_3⟩ := cl4 BK246.out; obtain ⟨hfz83_0, hfz83_1, hfz83_2, hfz83_3⟩ := fl4 BK246.out))
      refine bodyPost_ret (results_cell_row rfl _ _ gb246 34 #[.int .i64 0, .int .i64 x248001_1, .int .i64 x248002_1, .int .i64 0] (0, 0) _ rfl (by refine pl ?_; refine blk_put (cs := #[.int .i64 0, .int .i64 x248001_1, .int .i64 x248002_1, .int .i64 0]) ?_ 3 _ rfl; refine pl ?_; refine blk_put (cs := #[.int .i64 0, .int .i64 x248001_1, .int .i64 0, .int .i64 0]) ?_ 2 _ rfl; refine pl ?_; refine blk_put (cs := #[.int .i64 0, .int .i64 0, .int .i64 0, .int .i64 0]) ?_ 1 _ rfl; refine pl ?_; refine blk_put (cs := #[.int .i64 0, .int .i64 0, .int .i64 0, .int .i64 0]) ?_ 0 _ rfl; refine pl ?_; exact BK246.out) Tryd.underlying34 rfl (by kernel_rfl)) rfl ?_
      exact ⟨by first | rfl | (simp [errW_none, errW_some] <;> rfl) | (simp [*, errW_none, errW_some] <;> rfl), by repeat (first | (with_reducible first | exact HB.out | apply below_alloc | apply pw_below_drewN | apply below_drew1 | refine below_set ?_ GE244.out | refine below_set ?_ GE245.out | refine below_set ?_ GE246.out | refine below_set ?_ GE247.out) | exact HB.out)⟩
    ·replace c49 := Bool.eq_false_iff.mpr c49
     subst c49
     have H1 := H; rw [if_neg (show ¬ (false = true) by decide)] at H1
     clear H; have H := H1; clear H1
     simp only [Option.some.injEq, Prod.mk.injEq] at H
     obtain ⟨rfl, rfl, rfl, rfl⟩ := H
     have hnb84 := NB244_245.out; have hnc84 := NB245_244.out; have hnb85 := NB244_246.out; have hnc85 := NB246_244.out; have hnb86 := NB244_247.out; have hnc86 := NB247_244.out; obtain ⟨hcz87_0, hcz87_1, hcz87_2, hcz87_3, hcz87_4, hcz87_5⟩ := cl6 BK244.out; obtain ⟨hfz87_0, hfz87_1, hfz87_2, hfz87_3, hfz87_4, hfz87_5⟩ := fl6 BK244.out
     go_wp2_with (first | ((with_reducible refine gate_callee (f := 55) rfl ?_); refine goesL_ (some 54) rfl rfl Tryd.func55 (by kernel_rfl) rfl #[.string a0_5, .int .u8 13] rfl (by (try simp only [List.map_toArray, List.map_cons, List.map_nil]); first | done | rfl | (simp only [List.length_drop, List.length_take]; rfl)) ?_; (with_reducible refine (weld_tailIs.calls a0_5 13 false _ A48.out).mono ?_); rintro e w' ⟨rfl, ⟨nd, rfl⟩⟩; refine ⟨_, rfl, ?_⟩; (try (rw [drewN_self wr]; generalize hq_ : World.drewN wr _ = wr; have n0_ : Aside0 (wr.heap[gb244]? = some (.cells #[.int .i64 a0_0, .int .i64 a0_1, .int .i64 a0_2, .int .i64 a0_3, .string a0_4, .string a0_5] 36 (0, 0))) := ⟨by rw [← hq_]; exact (pl BK244.out)⟩; have n1_ : Aside0 (wr.heap[gb245]? = some (.cells #[.int .i64 a1_0, .int .i64 a1_1, .int .i64 a1_2, .int .i64 a1_3, .string a1_4, .string a1_5] 36 (0, 0))) := ⟨by rw [← hq_]; exact (pl BK245.out)⟩; have n2_ : Aside0 (wr.heap[gb246]? = some (.cells #[.int .i64 0, .int .i64 0, .int .i64 0, .int .i64 0] 34 (0, 0))) := ⟨by rw [← hq_]; exact (pl BK246.out)⟩; have n3_ : Aside0 (wr.heap[gb247]? = some (.cells #[.int .i64 0, .int .i64 x248001_1, .int .i64 x248002_1, .int .i64 0] 34 (0, 0))) := ⟨by rw [← hq_]; exact (pl BK247.out)⟩; have n4_ : Aside0 (Below w.heap.size w wr) := ⟨by rw [← hq_]; exact (by repeat (first | (with_reducible first | exact HB.out | apply below_alloc | apply pw_below_drewN | apply below_drew1 | refine below_set ?_ GE244.out | refine below_set ?_ GE245.out | refine below_set ?_ GE246.out | refine below_set ?_ GE247.out) | exact HB.out))⟩; clear BK244 BK245 BK246 BK247 HB hq_; have BK244 := n0_; have BK245 := n1_; have BK246 := n2_; have BK247 := n3_; have HB := n4_; clear n0_ n1_ n2_ n3_ n4_)); have hnb88 := NB247_245.out; have hnc88 := NB245_247.out; have hnb89 := NB247_246.out; have hnc89 := NB246_247.out; obtain ⟨hcz90_0, hcz90_1, hcz90_2, hcz90_3⟩ := cl4 BK247.out; obtain ⟨hfz90_0, hfz90_1, hfz90_2, hfz90_3⟩ := fl4 BK247.out; have hnb91 := NB246_245.out; have hnc91 := NB245_246.out; obtain ⟨hcz92_0, hcz92_1, hcz92_2, hcz92_3⟩ := cl4 BK246.out; obtain ⟨hfz92_0, hfz92_1, hfz92_2, hfz92_3⟩ := fl4 BK246.out))
     refine bodyPost_ret (results_cell_row rfl _ _ gb246 34 #[.int .i64 0, .int .i64 x248001_1, .int .i64 x248002_1, .int .i64 0] (0, 0) _ rfl (by refine pl ?_; refine blk_put (cs := #[.int .i64 0, .int .i64 x248001_1, .int .i64 x248002_1, .int .i64 0]) ?_ 3 _ rfl; refine pl ?_; refine blk_put (cs := #[.int .i64 0, .int .i64 x248001_1, .int .i64 0, .int .i64 0]) ?_ 2 _ rfl; refine pl ?_; refine blk_put (cs := #[.int .i64 0, .int .i64 0, .int .i64 0, .int .i64 0]) ?_ 1 _ rfl; refine pl ?_; refine blk_put (cs := #[.int .i64 0, .int .i64 0, .int .i64 0, .int .i64 0]) ?_ 0 _ rfl; refine pl ?_; exact BK246.out) Tryd.underlying34 rfl (by kernel_rfl)) rfl ?_
     exact ⟨by first | rfl | (simp [errW_none, errW_some] <;> rfl) | (simp [*, errW_none, errW_some] <;> rfl), by repeat (first | (with_reducible first | exact HB.out | apply below_alloc | apply pw_below_drewN | apply below_drew1 | refine below_set ?_ GE244.out | refine below_set ?_ GE245.out | refine below_set ?_ GE246.out | refine below_set ?_ GE247.out) | exact HB.out)⟩
end Go.Proofs.YteoonhidjldnfaaDoor.Pr

namespace Go.Proofs.YteoonhidjldnfaaDoor.PuSm
open Go.RowKit Go.Proofs.YteoonhidjldnfaaDoor.Pr Go.Proofs.YteoonhidjldnfaaDoor.Math Go.Proofs.YteoonhidjldnfaaDoor.Ev Go.Proofs.YteoonhidjldnfaaDoor.PuSz Go.Proofs.YteoonhidjldnfaaDoor.PuMs Go.Proofs.YteoonhidjldnfaaDoorW.PrintWords Go.Proofs.YteoonhidjldnfaaDoorW.PrintLast Go.Proofs.YteoonhidjldnfaaDoorW.PrintMore
set_option linter.unusedVariables false
set_option linter.unusedSimpArgs false
def uL (n : Nat) : Int := if n = 4 then 2 else 1
theorem uL_range (n : Nat) : 1 ≤ uL n ∧ uL n ≤ 2 := by unfold uL; split <;> omega
def swI (k L : Nat) (p : Int × Int) : Int × Int := if k < L then ((L : Int) - 1, (L : Int) - uL L) else p
theorem seamR_swI (A B : List Int) (k : Nat) (h1 : 1 ≤ k) (h2 : k ≤ A.length) : seamR (A.drop (A.length - k)) B = swI k (lg (A.drop (A.length - k) ++ B)) (seamR (A.drop (A.length - (k - 1))) B) := by
  have hd : A.drop (A.length - k) = A[A.length - k] :: A.drop (A.length - (k - 1)) := by
    rw [List.drop_eq_getElem_cons (show A.length - k < A.length by omega), show A.length - k + 1 = A.length - (k - 1) by omega]
  rw [hd, seamR]
  unfold swI uL
  have hl : (A.drop (A.length - (k - 1))).length + 1 = k := by rw [List.length_drop]; omega
  rw [hl]
theorem cut_lg (S B : List Int) (hS : 1 ≤ S.length) (j : Nat) (h1 : 1 ≤ j) (h2 : j ≤ B.length) : lg (S ++ B.take j) = S.length + j ↔ lg (S ++ B) = S.length + j := by
  have e : S ++ B = (S ++ B.take j) ++ B.drop j := by rw [List.append_assoc, List.take_append_drop]
  constructor
  · intro h
    rw [e, lg_append _ _ (by omega), h]
  · intro h
    rw [e] at h
    rw [lg_of_append (S ++ B.take j) (B.drop j) (by omega) (by rw [h, List.length_append, List.length_take]; omega), h]
theorem bt_bo (s : ByteArray) (i : Int) (h : i.toNat < s.size) : bt s i = (bytesOf s).getD i.toNat (-1) := by
  rw [← rd_bytesOf, rd_getD _ _ (by rw [bytesOf_length]; exact h)]
def cutS (A B : List Int) (k j : Nat) : List Int := A.drop (A.length - k) ++ B.take j
theorem cutS_len (A B : List Int) (k j : Nat) (h : k ≤ A.length) (h' : j ≤ B.length) : (cutS A B k j).length = k + j := by unfold cutS; rw [List.length_append, List.length_drop, List.length_take]; omega
theorem cutS_byt {A B : List Int} (hA : Byt A) (hB : Byt B) (k j : Nat) : Byt (cutS A B k j) := (hA.drop _).append (hB.take _)
theorem cutS_lg (A B : List Int) (k j : Nat) (h1 : 1 ≤ k) (h2 : k ≤ A.length) (h3 : 1 ≤ j) (h4 : j ≤ B.length) : lg (cutS A B k j) = k + j ↔ lg (A.drop (A.length - k) ++ B) = k + j := by
  have e : (A.drop (A.length - k)).length = k := by rw [List.length_drop]; omega
  have := cut_lg (A.drop (A.length - k)) B (by omega) j h3 h4
  rw [e] at this
  exact this
theorem cutS_ba (s t : ByteArray) (k j : Nat) (h : k ≤ s.size) : bytesOf (s.extract (((s.size - k : Nat) : Int)).toNat s.size ++ t.extract 0 ((j : Int)).toNat) = cutS (bytesOf s) (bytesOf t) k j := by
  rw [bo_append, Int.toNat_natCast, Int.toNat_natCast, ex_tail, bo_extract, List.drop_zero, Nat.sub_zero, bytesOf_length s |>.symm]
  rfl
section
variable (a0 a1 a2 a3 b0 b1 b2 b3 : Int) (aH aT bH bT : ByteArray)
theorem w_l1_next (k kk j : Nat) (z1 z2 : Int) (h1 : 1 ≤ kk) (h2 : kk ≤ aT.size) (h3 : 1 ≤ j) (h4 : j ≤ bH.size) (hs : aT.size ≤ 3) (ht : bH.size ≤ 3) :
    weld_seam.l1 (k + 10) kk j a0 a1 a2 a3 aH aT b0 b1 b2 b3 bH bT 0 z1 z2 0 =
      (if lg ((bytesOf aT).drop (aT.size - kk) ++ bytesOf bH) = kk + j then weld_seam.l1 (k + 9) kk ((j + 1 : Nat) : Int) a0 a1 a2 a3 aH aT b0 b1 b2 b3 bH bT 0 ((kk + j : Nat) - 1) ((kk + j : Nat) - uL (kk + j)) 0
       else weld_seam.l1 (k + 9) kk ((j + 1 : Nat) : Int) a0 a1 a2 a3 aH aT b0 b1 b2 b3 bH bT 0 z1 z2 0) := by
  have hB := bo_byt bH
  have hA := bo_byt aT
  have hl := cutS_len (bytesOf aT) (bytesOf bH) kk j (by rw [bytesOf_length]; exact h2) (by rw [bytesOf_length]; exact h4)
  have hne : cutS (bytesOf aT) (bytesOf bH) kk j ≠ [] := fun h => by rw [h] at hl; simp at hl; omega
  have hv := val_lg _ (cutS_byt hA hB kk j) hne
  have hc := cutS_lg (bytesOf aT) (bytesOf bH) kk j h1 (by rw [bytesOf_length]; exact h2) h3 (by rw [bytesOf_length]; exact h4)
  rw [bytesOf_length] at hc
  rw [hl, hc] at hv
  have e1 : wrap64 ((aT.size : Int) - (kk : Int)) = ((aT.size - kk : Nat) : Int) := by rw [w64 (by omega) (by omega)]; omega
  have e2 : wrap64 ((j : Int) + 1) = ((j + 1 : Nat) : Int) := by rw [w64 (by omega) (by omega)]; rfl
  have e3 : wrap64 ((kk : Int) + (j : Int)) = ((kk + j : Nat) : Int) := by rw [w64 (by omega) (by omega)]; omega
  have hcb := cutS_ba aT bH kk j h2
  have hvr := val_range (cutS (bytesOf aT) (bytesOf bH) kk j) (cutS_byt hA hB kk j)
  rw [weld_seam.l1, if_pos (by omega), e1, if_pos (by omega), if_pos (by omega), if_pos (by omega)]
  rw [if_pos (by rw [ByteArray.size_extract, ByteArray.size_extract]; omega), if_pos (by rw [← bytesOf_length, hcb, hl]; omega), hcb, o_Value k _ (cutS_byt hA hB kk j), Option.bind_some, e2, e3]
  by_cases hg : lg ((bytesOf aT).drop (aT.size - kk) ++ bytesOf bH) = kk + j
  · rw [if_pos hg, if_pos (hv.1.2 hg)]
    have hu : weld_units.f (val (cutS (bytesOf aT) (bytesOf bH) kk j)) = some (uL (kk + j)) := by
      unfold weld_units.f uL
      have h5 := hv.2 hg
      rw [hc.2 hg] at h5
      by_cases h6 : kk + j = 4
      · rw [if_pos (h5.2 h6), if_pos h6]
      · rw [if_neg (fun c => h6 (h5.1 c)), if_neg h6]
    have hur := uL_range (kk + j)
    rw [hu, Option.bind_some, w64 (n := ((kk + j : Nat) : Int) - 1) (by omega) (by omega), w64 (n := ((kk + j : Nat) : Int) - uL (kk + j)) (by omega) (by omega)]
  · rw [if_neg hg, if_neg (fun c => hg (hv.1.1 c))]
theorem w_l1_end (k kk j : Nat) (z1 z2 : Int) (h1 : kk ≤ 3) (h : bH.size < j) : weld_seam.l1 (k + 1) kk j a0 a1 a2 a3 aH aT b0 b1 b2 b3 bH bT 0 z1 z2 0 = weld_seam.l0 k ((kk + 1 : Nat) : Int) a0 a1 a2 a3 aH aT b0 b1 b2 b3 bH bT 0 z1 z2 0 := by
  rw [weld_seam.l1, if_neg (by omega), w64 (by omega) (by omega)]
  rfl
theorem w_l1 (kk : Nat) (h1 : 1 ≤ kk) (h2 : kk ≤ aT.size) (hs : aT.size ≤ 3) (ht : bH.size ≤ 3) (p : Int × Int) (L : Nat) (hL : lg ((bytesOf aT).drop (aT.size - kk) ++ bytesOf bH) = L) (d : Nat) :
    ∀ (k j : Nat) (z : Int × Int), 1 ≤ j → j + d = bH.size + 1 → z = (if kk < L ∧ L - kk < j then ((L : Int) - 1, (L : Int) - uL L) else p) →
      weld_seam.l1 (k + 10 + d) kk j a0 a1 a2 a3 aH aT b0 b1 b2 b3 bH bT 0 z.1 z.2 0 = weld_seam.l0 (k + 9) ((kk + 1 : Nat) : Int) a0 a1 a2 a3 aH aT b0 b1 b2 b3 bH bT 0 (swI kk L p).1 (swI kk L p).2 0 := by
  have hll : L ≤ kk + bH.size := by
    have := lg_len ((bytesOf aT).drop (aT.size - kk) ++ bytesOf bH)
    rw [hL, List.length_append, List.length_drop, bytesOf_length, bytesOf_length] at this
    omega
  induction d with
  | zero =>
    intro k j z hj hd hz
    rw [show k + 10 + 0 = (k + 9) + 1 from rfl, w_l1_end a0 a1 a2 a3 b0 b1 b2 b3 aH aT bH bT (k + 9) kk j z.1 z.2 (by omega) (by omega)]
    have : z = swI kk L p := by
      rw [hz]
      unfold swI
      by_cases h : kk < L
      · rw [if_pos ⟨h, by omega⟩, if_pos h]
      · rw [if_neg (fun c => h c.1), if_neg h]
    rw [this]
  | succ d ih =>
    intro k j z hj hd hz
    have hn := w_l1_next a0 a1 a2 a3 b0 b1 b2 b3 aH aT bH bT (k + d + 1) kk j z.1 z.2 h1 h2 hj (by omega) hs ht
    rw [show k + 10 + (d + 1) = k + d + 1 + 10 by omega, hn, hL]
    by_cases hg : L = kk + j
    · rw [if_pos hg, ← hg]
      have := ih k (j + 1) ((L : Int) - 1, (L : Int) - uL L) (by omega) (by omega) (by rw [if_pos ⟨by omega, by omega⟩])
      rw [show k + d + 1 + 9 = k + 10 + d by omega]
      exact this
    · rw [if_neg hg]
      have := ih k (j + 1) z (by omega) (by omega) (by
        rw [hz]
        by_cases h : kk < L ∧ L - kk < j
        · rw [if_pos h, if_pos ⟨h.1, by omega⟩]
        · rw [if_neg h, if_neg (fun c => h ⟨c.1, by omega⟩)])
      rw [show k + d + 1 + 9 = k + 10 + d by omega]
      exact this
theorem w_l0_end (k kk : Nat) (z1 z2 : Int) (h : aT.size < kk) (hs : aT.size ≤ 3) (ht : bH.size ≤ 3) : weld_seam.l0 (k + 1) kk a0 a1 a2 a3 aH aT b0 b1 b2 b3 bH bT 0 z1 z2 0 = some (0, z1, z2, seamE (bytesOf aT) (bytesOf bH)) := by
  rw [weld_seam.l0, if_neg (by omega)]
  unfold weld_tailIs.f seamE
  rw [bytesOf_length]
  by_cases ha : (aT.size : Int) > 0
  · have e : wrap64 ((aT.size : Int) - 1) = ((aT.size - 1 : Nat) : Int) := by rw [w64 (by omega) (by omega)]; omega
    rw [if_pos ha, e, if_pos (by omega), if_pos (by omega), Option.bind_some, bt_bo aT _ (by simp; omega)]
    simp only [Int.toNat_natCast, beq_iff_eq]
    by_cases h13 : (bytesOf aT).getD (aT.size - 1) (-1) = 13
    · rw [if_pos h13]
      by_cases hb : (bH.size : Int) > 0
      · rw [if_pos hb, if_pos (by omega), bt_bo bH _ (by simp; omega)]
        simp only [Int.toNat_zero]
        by_cases h10 : (bytesOf bH).getD 0 (-1) = 10
        · rw [if_pos h10, if_pos ⟨h13, h10⟩]
        · rw [if_neg h10, if_neg (fun c => h10 c.2)]
      · rw [if_neg hb, if_neg (fun c => by rw [getD_m1 _ 0 (by rw [bytesOf_length]; omega)] at c; omega)]
    · rw [if_neg h13, if_neg (fun c => h13 c.1)]
  · rw [if_neg ha, Option.bind_some, if_neg (by decide), if_neg (fun c => by rw [getD_m1 _ _ (by rw [bytesOf_length]; omega)] at c; omega)]
theorem w_l0 (hs : aT.size ≤ 3) (ht : bH.size ≤ 3) (d : Nat) : ∀ (k kk : Nat) (z : Int × Int), 1 ≤ kk → kk + d = aT.size + 1 → z = seamR ((bytesOf aT).drop (aT.size - (kk - 1))) (bytesOf bH) →
    weld_seam.l0 (k + 20 + 20 * d) kk a0 a1 a2 a3 aH aT b0 b1 b2 b3 bH bT 0 z.1 z.2 0 = some (0, (seamR (bytesOf aT) (bytesOf bH)).1, (seamR (bytesOf aT) (bytesOf bH)).2, seamE (bytesOf aT) (bytesOf bH)) := by
  induction d with
  | zero =>
    intro k kk z hk hd hz
    rw [show k + 20 + 20 * 0 = (k + 19) + 1 by omega, w_l0_end a0 a1 a2 a3 b0 b1 b2 b3 aH aT bH bT _ kk z.1 z.2 (by omega) hs ht, hz, show aT.size - (kk - 1) = 0 by omega, List.drop_zero]
  | succ d ih =>
    intro k kk z hk hd hz
    have hsw := seamR_swI (bytesOf aT) (bytesOf bH) kk hk (by rw [bytesOf_length]; omega)
    rw [bytesOf_length, ← hz] at hsw
    have h1 := w_l1 a0 a1 a2 a3 b0 b1 b2 b3 aH aT bH bT kk hk (by omega) hs ht z _ rfl bH.size (k + 20 + 20 * d + 9 - bH.size) 1 z (by omega) (by omega) (by rw [if_neg (by omega)])
    have h2 := ih (k + 18 - bH.size) (kk + 1) _ (by omega) (by omega) hsw.symm
    rw [show k + 20 + 20 * (d + 1) = (k + 20 + 20 * d + 9 - bH.size + 10 + bH.size) + 1 by omega, weld_seam.l0, if_pos (by omega)]
    rw [show (1 : Int) = ((1 : Nat) : Int) from rfl, h1, show k + 20 + 20 * d + 9 - bH.size + 9 = k + 18 - bH.size + 20 + 20 * d by omega]
    exact h2
theorem wSeam_eq (k : Nat) (hs : aT.size ≤ 3) (ht : bH.size ≤ 3) (hk : 80 ≤ k) : weld_seam.f k a0 a1 a2 a3 aH aT b0 b1 b2 b3 bH bT = some (0, (seamR (bytesOf aT) (bytesOf bH)).1, (seamR (bytesOf aT) (bytesOf bH)).2, seamE (bytesOf aT) (bytesOf bH)) := by
  unfold weld_seam.f
  have h := w_l0 a0 a1 a2 a3 b0 b1 b2 b3 aH aT bH bT hs ht aT.size (k - 20 - 20 * aT.size) 1 (0, 0) (by omega) (by omega) (by rw [Nat.sub_self, Nat.sub_zero, List.drop_of_length_le (by rw [bytesOf_length]; omega)]; rfl)
  rw [show k - 20 - 20 * aT.size + 20 + 20 * aT.size = k by omega] at h
  exact h
end
end Go.Proofs.YteoonhidjldnfaaDoor.PuSm

namespace Go.Proofs.YteoonhidjldnfaaDoor.Pr
open Go.RowKit Go.Proofs.YteoonhidjldnfaaDoorW.PrintWords Go.Proofs.YteoonhidjldnfaaDoorW.PrintLast Go.Proofs.YteoonhidjldnfaaDoorW.PrintMore
attribute [local go_sem] max2_int min2_int max_two min_two max_three min_three max_four min_four   -- for this text's walks alone
set_option linter.unusedVariables false
set_option linter.unusedSimpArgs false
mutual
def weld_both.j0 : Nat → Bool → Int → Int → Int → Int → ByteArray → ByteArray → Int → Int → Int → Int → ByteArray → ByteArray → Option (Int × Int × Int × Int × ByteArray × ByteArray × Int × Int × Int × Int × Int)
 | 0, _, _, _, _, _, _, _, _, _, _, _, _, _ => none
 | k + 1, x9, x258000, x258001, x258002, x258003, x258004, x258005, x259000, x259001, x259002, x259003, x259004, x259005 => if x9 = true then (some (0, 0, 0, 0, (⟨#[]⟩ : ByteArray), (⟨#[]⟩ : ByteArray), 0, 0, 0, 0, 50)) else (if (wrap64 (x258000 + x259000)) > 268435456 then (some (0, 0, 0, 0, (⟨#[]⟩ : ByteArray), (⟨#[]⟩ : ByteArray), 0, 0, 0, 0, 5)) else ((weld_seam.f k x258000 x258001 x258002 x258003 x258004 x258005 x259000 x259001 x259002 x259003 x259004 x259005).bind fun bt263 => ((weld_sum.f x258000 x258001 x258002 x258003 x259000 x259001 x259002 x259003 1).bind fun bt268 => ((weld_sum.f bt268.1 bt268.2.1 bt268.2.2.1 bt268.2.2.2 bt263.1 bt263.2.1 bt263.2.2.1 bt263.2.2.2 (-1)).bind fun bt272 => (if x258000 < 3 then (if x258004.size + x259004.size ≤ 9223372036854775807 then ((weld_head.f (x258004 ++ x259004)).bind fun t277 => (weld_both.j1 k x258000 x258001 x258002 x258003 x258004 x258005 x259000 x259001 x259002 x259003 x259004 x259005 bt263.1 bt263.2.1 bt263.2.2.1 bt263.2.2.2 bt272.1 bt272.2.1 bt272.2.2.1 bt272.2.2.2 t277 x259005)) else (none)) else (weld_both.j1 k x258000 x258001 x258002 x258003 x258004 x258005 x259000 x259001 x259002 x259003 x259004 x259005 bt263.1 bt263.2.1 bt263.2.2.1 bt263.2.2.2 bt272.1 bt272.2.1 bt272.2.2.1 bt272.2.2.2 x258004 x259005))))))
def weld_both.j1 : Nat → Int → Int → Int → Int → ByteArray → ByteArray → Int → Int → Int → Int → ByteArray → ByteArray → Int → Int → Int → Int → Int → Int → Int → Int → ByteArray → ByteArray → Option (Int × Int × Int × Int × ByteArray × ByteArray × Int × Int × Int × Int × Int)
 | 0, _, _, _, _, _, _, _, _, _, _, _, _, _, _, _, _, _, _, _, _, _, _ => none
 | k + 1, x258000, x258001, x258002, x258003, x258004, x258005, x259000, x259001, x259002, x259003, x259004, x259005, x268000, x268001, x268002, x268003, x277000, x277001, x277002, x277003, x277004, x277005 => if x259000 < 3 then (if x258005.size + x259005.size ≤ 9223372036854775807 then ((weld_tail.f (x258005 ++ x259005)).bind fun t278 => ((weld_Valid.f k x277000 x277001 x277002 x277003 x277004 t278).bind fun t279 => (if t279 = true then (some (x277000, x277001, x277002, x277003, x277004, t278, x268000, x268001, x268002, x268003, 0)) else (some (0, 0, 0, 0, (⟨#[]⟩ : ByteArray), (⟨#[]⟩ : ByteArray), 0, 0, 0, 0, 50))))) else (none)) else ((weld_Valid.f k x277000 x277001 x277002 x277003 x277004 x277005).bind fun t280 => (if t280 = true then (some (x277000, x277001, x277002, x277003, x277004, x277005, x268000, x268001, x268002, x268003, 0)) else (some (0, 0, 0, 0, (⟨#[]⟩ : ByteArray), (⟨#[]⟩ : ByteArray), 0, 0, 0, 0, 50))))
end
def weld_both.f (k : Nat) (a0_0 : Int) (a0_1 : Int) (a0_2 : Int) (a0_3 : Int) (a0_4 : ByteArray) (a0_5 : ByteArray) (a1_0 : Int) (a1_1 : Int) (a1_2 : Int) (a1_3 : Int) (a1_4 : ByteArray) (a1_5 : ByteArray) : Option (Int × Int × Int × Int × ByteArray × ByteArray × Int × Int × Int × Int × Int) := (weld_Valid.f k a0_0 a0_1 a0_2 a0_3 a0_4 a0_5).bind fun t261 => (if t261 = true then ((weld_Valid.f k a1_0 a1_1 a1_2 a1_3 a1_4 a1_5).bind fun t262 => (weld_both.j0 k (!t262) a0_0 a0_1 a0_2 a0_3 a0_4 a0_5 a1_0 a1_1 a1_2 a1_3 a1_4 a1_5)) else (weld_both.j0 k true a0_0 a0_1 a0_2 a0_3 a0_4 a0_5 a1_0 a1_1 a1_2 a1_3 a1_4 a1_5))
def weld_both.T6 : Bool × List (List Nat × List Nat) := (true, [([], []), ([0], [0]), ([], []), ([2], [2]), ([1, 3], [1, 3]), ([], []), ([4, 5, 4], [4, 5]), ([], []), ([7], [7]), ([], []), ([9], [9]), ([6, 8, 10], [6, 8, 10]), ([], []), ([12, 11, 6, 0, 1, 2, 3, 4, 5, 6, 7, 8, 9, 10, 11, 12], [11, 12])])
def weld_both.B6 : List Nat := [0, 1, 0, 4, 15, 0, 63, 0, 128, 0, 512, 2047, 0, 8191]
theorem weld_both.tab6 : rtab .any (opsOf Tryd.f36 6) = weld_both.T6 := by kernel_rfl
theorem weld_both.bits6 : waitsOk weld_both.T6.2 weld_both.B6 = true := by kernel_rfl
set_option maxHeartbeats 8000000 in
set_option maxRecDepth 100000 in
theorem weld_both.calls (k : Nat) (a0_0 : Int) (a0_1 : Int) (a0_2 : Int) (a0_3 : Int) (a0_4 : ByteArray) (a0_5 : ByteArray) (a1_0 : Int) (a1_1 : Int) (a1_2 : Int) (a1_3 : Int) (a1_4 : ByteArray) (a1_5 : ByteArray) (r1 : Int) (r2 : Int) (r3 : Int) (r4 : Int) (r5 : ByteArray) (r6 : ByteArray) (r7 : Int) (r8 : Int) (r9 : Int) (r10 : Int) (r11 : Int) (w : World) (hG : Glob.Globs w) (h : weld_both.f k a0_0 a0_1 a0_2 a0_3 a0_4 a0_5 a1_0 a1_1 a1_2 a1_3 a1_4 a1_5 = some (r1, r2, r3, r4, r5, r6, r7, r8, r9, r10, r11)) :
  Calls Tryd.prog 36 #[.agg #[.int .i64 a0_0, .int .i64 a0_1, .int .i64 a0_2, .int .i64 a0_3, .string a0_4, .string a0_5], .agg #[.int .i64 a1_0, .int .i64 a1_1, .int .i64 a1_2, .int .i64 a1_3, .string a1_4, .string a1_5]] w fun e w' => e = .returned (.tuple #[.agg #[.int .i64 r1, .int .i64 r2, .int .i64 r3, .int .i64 r4, .string r5, .string r6], .agg #[.int .i64 r7, .int .i64 r8, .int .i64 r9, .int .i64 r10], .int .i64 r11]) ∧ Below w.heap.size w w' := by
 have hu36 := Tryd.underlying36
 have hu34 := Tryd.underlying34
 have HG := Aside0.mk hG; clear hG
 have HB := Aside0.mk (Below.refl w.heap.size w)
 have H : ((weld_Valid.f k a0_0 a0_1 a0_2 a0_3 a0_4 a0_5).bind fun t261 => (if t261 = true then ((weld_Valid.f k a1_0 a1_1 a1_2 a1_3 a1_4 a1_5).bind fun t262 => (weld_both.j0 k (!t262) a0_0 a0_1 a0_2 a0_3 a0_4 a0_5 a1_0 a1_1 a1_2 a1_3 a1_4 a1_5)) else (weld_both.j0 k true a0_0 a0_1 a0_2 a0_3 a0_4 a0_5 a1_0 a1_1 a1_2 a1_3 a1_4 a1_5))) = some (r1, r2, r3, r4, r5, r6, r7, r8, r9, r10, r11) := h
 clear h; have HC3 := Aside0.mk H; clear H
 go_enter Tryd.func36, Tryd.ntmps36
 go_upto_region 1 with (first | ((with_reducible refine gate_dst (N := 2) rfl ?_); refine box_event ?hg (N := 2) ?hd (cs := #[.int .i64 a0_0, .int .i64 a0_1, .int .i64 a0_2, .int .i64 a0_3, .string a0_4, .string a0_5]) (t := 36) ?hr ?_; (case hd => rfl); (case hg => rfl); (case hr => first | (go_simp; done) | (go_simp; rfl)); intro gb257 hg w4 hbox hb; have n0_ := Aside0.mk (below_step (bl HB.out) hb); have n1_ := Aside0.mk (hbox); have n2_ := Aside0.mk ((by rw [hg]; exact (below_size (bl HB.out)) : w.heap.size ≤ gb257)); have n3_ := Aside0.mk ((by rw [hg]; exact (below_size (bl HB.out)) : w.heap.size ≤ gb257)); clear HB; have HB := n0_; have BK257 := n1_; have GW257 := n2_; have GE257 := n3_; clear n0_ n1_ n2_ n3_; clear hb hbox hg) | ((with_reducible refine gate_dst (N := 3) rfl ?_); refine box_event ?hg (N := 3) ?hd (cs := #[.int .i64 a1_0, .int .i64 a1_1, .int .i64 a1_2, .int .i64 a1_3, .string a1_4, .string a1_5]) (t := 36) ?hr ?_; (case hd => rfl); (case hg => rfl); (case hr => first | (go_simp; done) | (go_simp; rfl)); intro gb258 hg w5 hbox hb; have n0_ := Aside0.mk (blk_below (pl BK257.out) hb); have n1_ := Aside0.mk (below_step (by repeat (first | (with_reducible first | exact HB.out | apply below_alloc | apply pw_below_drewN | apply below_drew1 | refine below_set ?_ GE257.out) | exact HB.out)) hb); have n2_ := Aside0.mk (hbox); have n3_ := Aside0.mk ((by rw [hg]; exact (below_size (by repeat (first | (with_reducible first | exact HB.out | apply below_alloc | apply pw_below_drewN | apply below_drew1 | refine below_set ?_ GE257.out) | exact HB.out))) : w.heap.size ≤ gb258)); have n4_ := Aside0.mk ((by rw [hg]; exact (below_size (by repeat (first | (with_reducible first | exact HB.out | apply below_alloc | apply pw_below_drewN | apply below_drew1 | refine below_set ?_ GE257.out) | exact HB.out))) : w.heap.size ≤ gb258)); have n5_ := Aside0.mk ((by rw [hg]; exact Nat.ne_of_lt (blk_lt (pl BK257.out)) : gb257 ≠ gb258)); have n6_ := Aside0.mk ((by rw [hg]; exact Nat.ne_of_gt (blk_lt (pl BK257.out)) : gb258 ≠ gb257)); clear BK257; clear HB; have BK257 := n0_; have HB := n1_; have BK258 := n2_; have GW258 := n3_; have GE258 := n4_; have NB257_258 := n5_; have NB258_257 := n6_; clear n0_ n1_ n2_ n3_ n4_ n5_ n6_; clear hb hbox hg) | ((with_reducible refine gate_dst (N := 4) rfl ?_); refine box_event ?hg (N := 4) ?hd (cs := #[.int .i64 0, .int .i64 0, .int .i64 0, .int .i64 0, .string (⟨#[]⟩ : ByteArray), .string (⟨#[]⟩ : ByteArray)]) (t := 36) ?hr ?_; (case hd => rfl); (case hg => rfl); (case hr => first | (go_simp; done) | (go_simp; rfl)); intro gb259 hg w6 hbox hb; have n0_ := Aside0.mk (blk_below (pl BK257.out) hb); have n1_ := Aside0.mk (blk_below (pl BK258.out) hb); have n2_ := Aside0.mk (below_step (by repeat (first | (with_reducible first | exact HB.out | apply below_alloc | apply pw_below_drewN | apply below_drew1 | refine below_set ?_ GE257.out | refine below_set ?_ GE258.out) | exact HB.out)) hb); have n3_ := Aside0.mk (hbox); have n4_ := Aside0.mk ((by rw [hg]; exact (below_size (by repeat (first | (with_reducible first | exact HB.out | apply below_alloc | apply pw_below_drewN | apply below_drew1 | refine below_set ?_ GE257.out | refine below_set ?_ GE258.out) | exact HB.out))) : w.heap.size ≤ gb259)); have n5_ := Aside0.mk ((by rw [hg]; exact (below_size (by repeat (first | (with_reducible first | exact HB.out | apply below_alloc | apply pw_below_drewN | apply below_drew1 | refine below_set ?_ GE257.out | refine below_set ?_ GE258.out) | exact HB.out))) : w.heap.size ≤ gb259)); have n6_ := Aside0.mk ((by rw [hg]; exact Nat.ne_of_lt (blk_lt (pl BK257.out)) : gb257 ≠ gb259)); have n7_ := Aside0.mk ((by rw [hg]; exact Nat.ne_of_gt (blk_lt (pl BK257.out)) : gb259 ≠ gb257)); have n8_ := Aside0.mk ((by rw [hg]; exact Nat.ne_of_lt (blk_lt (pl BK258.out)) : gb258 ≠ gb259)); have n9_ := Aside0.mk ((by rw [hg]; exact Nat.ne_of_gt (blk_lt (pl BK258.out)) : gb259 ≠ gb258)); clear BK257; clear BK258; clear HB; have BK257 := n0_; have BK258 := n1_; have HB := n2_; have BK259 := n3_; have GW259 := n4_; have GE259 := n5_; have NB257_259 := n6_; have NB259_257 := n7_; have NB258_259 := n8_; have NB259_258 := n9_; clear n0_ n1_ n2_ n3_ n4_ n5_ n6_ n7_ n8_ n9_; clear hb hbox hg) | ((with_reducible refine gate_dst (N := 5) rfl ?_); refine box_event ?hg (N := 5) ?hd (cs := #[.int .i64 0, .int .i64 0, .int .i64 0, .int .i64 0]) (t := 34) ?hr ?_; (case hd => rfl); (case hg => rfl); (case hr => first | (go_simp; done) | (go_simp; rfl)); intro gb260 hg w7 hbox hb; have n0_ := Aside0.mk (blk_below (pl BK257.out) hb); have n1_ := Aside0.mk (blk_below (pl BK258.out) hb); have n2_ := Aside0.mk (blk_below (pl BK259.out) hb); have n3_ := Aside0.mk (below_step (by repeat (first | (with_reducible first | exact HB.out | apply below_alloc | apply pw_below_drewN | apply below_drew1 | refine below_set ?_ GE257.out | refine below_set ?_ GE258.out | refine below_set ?_ GE259.out) | exact HB.out)) hb); have n4_ := Aside0.mk (hbox); have n5_ := Aside0.mk ((by rw [hg]; exact (below_size (by repeat (first | (with_reducible first | exact HB.out | apply below_alloc | apply pw_below_drewN | apply below_drew1 | refine below_set ?_ GE257.out | refine below_set ?_ GE258.out | refine below_set ?_ GE259.out) | exact HB.out))) : w.heap.size ≤ gb260)); have n6_ := Aside0.mk ((by rw [hg]; exact (below_size (by repeat (first | (with_reducible first | exact HB.out | apply below_alloc | apply pw_below_drewN | apply below_drew1 | refine below_set ?_ GE257.out | refine below_set ?_ GE258.out | refine below_set ?_ GE259.out) | exact HB.out))) : w.heap.size ≤ gb260)); have n7_ := Aside0.mk ((by rw [hg]; exact Nat.ne_of_lt (blk_lt (pl BK257.out)) : gb257 ≠ gb260)); have n8_ := Aside0.mk ((by rw [hg]; exact Nat.ne_of_gt (blk_lt (pl BK257.out)) : gb260 ≠ gb257)); have n9_ := Aside0.mk ((by rw [hg]; exact Nat.ne_of_lt (blk_lt (pl BK258.out)) : gb258 ≠ gb260)); have n10_ := Aside0.mk ((by rw [hg]; exact Nat.ne_of_gt (blk_lt (pl BK258.out)) : gb260 ≠ gb258)); have n11_ := Aside0.mk ((by rw [hg]; exact Nat.ne_of_lt (blk_lt (pl BK259.out)) : gb259 ≠ gb260)); have n12_ := Aside0.mk ((by rw [hg]; exact Nat.ne_of_gt (blk_lt (pl BK259.out)) : gb260 ≠ gb259)); clear BK257; clear BK258; clear BK259; clear HB; have BK257 := n0_; have BK258 := n1_; have BK259 := n2_; have HB := n3_; have BK260 := n4_; have GW260 := n5_; have GE260 := n6_; have NB257_260 := n7_; have NB260_257 := n8_; have NB258_260 := n9_; have NB260_258 := n10_; have NB259_260 := n11_; have NB260_259 := n12_; clear n0_ n1_ n2_ n3_ n4_ n5_ n6_ n7_ n8_ n9_ n10_ n11_ n12_; clear hb hbox hg))
 (try simp only [Act.put, List.setIfInBounds_toArray, List.set_cons_zero, List.set_cons_succ])
 go_cut [9] (fun v9 wc => ∃ (kq : Nat) (x9_2 : Bool), v9 = .bool x9_2 ∧ Aside0 (weld_both.j0 kq x9_2 a0_0 a0_1 a0_2 a0_3 a0_4 a0_5 a1_0 a1_1 a1_2 a1_3 a1_4 a1_5 = some (r1, r2, r3, r4, r5, r6, r7, r8, r9, r10, r11)) ∧ Aside0 (kq ≤ k) ∧ Aside0 (wc.heap[gb257]? = some (.cells #[.int .i64 a0_0, .int .i64 a0_1, .int .i64 a0_2, .int .i64 a0_3, .string a0_4, .string a0_5] 36 (0, 0))) ∧ Aside0 (wc.heap[gb258]? = some (.cells #[.int .i64 a1_0, .int .i64 a1_1, .int .i64 a1_2, .int .i64 a1_3, .string a1_4, .string a1_5] 36 (0, 0))) ∧ Aside0 (wc.heap[gb259]? = some (.cells #[.int .i64 0, .int .i64 0, .int .i64 0, .int .i64 0, .string (⟨#[]⟩ : ByteArray), .string (⟨#[]⟩ : ByteArray)] 36 (0, 0))) ∧ Aside0 (wc.heap[gb260]? = some (.cells #[.int .i64 0, .int .i64 0, .int .i64 0, .int .i64 0] 34 (0, 0))) ∧ Aside0 (Below w.heap.size w wc))
 case first =>
  have H := HC3.out; clear HC3
  replace H := Option.bind_eq_some_iff.mp H
  obtain ⟨t261, A80, H⟩ := H
  have A8 := Aside0.mk A80; clear A80
  by_cases c9 : t261 = true
  ·subst c9
   have H1 := H; rw [if_pos rfl] at H1
   clear H; have H := H1; clear H1
   replace H := Option.bind_eq_some_iff.mp H
   obtain ⟨t262, A100, H⟩ := H
   have A10 := Aside0.mk A100; clear A100; have H' := Aside0.mk H; clear H; have hnb11 := NB257_258.out; have hnc11 := NB258_257.out; have hnb12 := NB257_259.out; have hnc12 := NB259_257.out; have hnb13 := NB257_260.out; have hnc13 := NB260_257.out; obtain ⟨hcz14_0, hcz14_1, hcz14_2, hcz14_3, hcz14_4, hcz14_5⟩ := cl6 BK257.out; obtain ⟨hfz14_0, hfz14_1, hfz14_2, hfz14_3, hfz14_4, hfz14_5⟩ := fl6 BK257.out
   go_wp2_with (first | ((with_reducible refine gate_callee (f := 43) rfl ?_); refine goesL_ (some 11) rfl rfl Tryd.func43 (by kernel_rfl) rfl #[.agg #[.int .i64 a0_0, .int .i64 a0_1, .int .i64 a0_2, .int .i64 a0_3, .string a0_4, .string a0_5]] rfl (by (try simp only [List.map_toArray, List.map_cons, List.map_nil]); first | done | rfl | (simp only [List.length_drop, List.length_take]; rfl)) ?_; (with_reducible refine (weld_Valid.calls k a0_0 a0_1 a0_2 a0_3 a0_4 a0_5 true _ ?side1 A8.out).mono ?_); (case side1 => first | (with_reducible exact HG.out) | exact Glob.Globs_below HG.out (by repeat (first | (with_reducible first | exact HB.out | apply below_alloc | apply pw_below_drewN | apply below_drew1 | refine below_set ?_ GE257.out | refine below_set ?_ GE258.out | refine below_set ?_ GE259.out | refine below_set ?_ GE260.out) | exact HB.out))); rintro e w15 ⟨rfl, hb⟩; refine ⟨_, rfl, ?_⟩; have n0_ := Aside0.mk (blk_below (pl BK257.out) hb); have n1_ := Aside0.mk (blk_below (pl BK258.out) hb); have n2_ := Aside0.mk (blk_below (pl BK259.out) hb); have n3_ := Aside0.mk (blk_below (pl BK260.out) hb); have n4_ := Aside0.mk (below_step (by repeat (first | (with_reducible first | exact HB.out | apply below_alloc | apply pw_below_drewN | apply below_drew1 | refine below_set ?_ GE257.out | refine below_set ?_ GE258.out | refine below_set ?_ GE259.out | refine below_set ?_ GE260.out) | exact HB.out)) hb); clear BK257; clear BK258; clear BK259; clear BK260; clear HB; have BK257 := n0_; have BK258 := n1_; have BK259 := n2_; have BK260 := n3_; have HB := n4_; clear n0_ n1_ n2_ n3_ n4_; (try clear hb); (try clear hb2); (try clear hk); (try clear hi); have hnb16 := NB258_259.out; have hnc16 := NB259_258.out; have hnb17 := NB258_260.out; have hnc17 := NB260_258.out; obtain ⟨hcz18_0, hcz18_1, hcz18_2, hcz18_3, hcz18_4, hcz18_5⟩ := cl6 BK258.out; obtain ⟨hfz18_0, hfz18_1, hfz18_2, hfz18_3, hfz18_4, hfz18_5⟩ := fl6 BK258.out) | (go_at_call 43; (with_reducible refine (weld_Valid.calls k a1_0 a1_1 a1_2 a1_3 a1_4 a1_5 t262 _ ?side1 A10.out).mono ?_); (case side1 => first | (with_reducible exact HG.out) | exact Glob.Globs_below HG.out (by repeat (first | (with_reducible first | exact HB.out | apply below_alloc | apply pw_below_drewN | apply below_drew1 | refine below_set ?_ GE257.out | refine below_set ?_ GE258.out | refine below_set ?_ GE259.out | refine below_set ?_ GE260.out) | exact HB.out))); rintro e w19 ⟨rfl, hb⟩; have n0_ := Aside0.mk (blk_below (pl BK257.out) hb); have n1_ := Aside0.mk (blk_below (pl BK258.out) hb); have n2_ := Aside0.mk (blk_below (pl BK259.out) hb); have n3_ := Aside0.mk (blk_below (pl BK260.out) hb); have n4_ := Aside0.mk (below_step (by repeat (first | (with_reducible first | exact HB.out | apply below_alloc | apply pw_below_drewN | apply below_drew1 | refine below_set ?_ GE257.out | refine below_set ?_ GE258.out | refine below_set ?_ GE259.out | refine below_set ?_ GE260.out) | exact HB.out)) hb); clear BK257; clear BK258; clear BK259; clear BK260; clear HB; have BK257 := n0_; have BK258 := n1_; have BK259 := n2_; have BK260 := n3_; have HB := n4_; clear n0_ n1_ n2_ n3_ n4_; (try clear hb); (try clear hb2); (try clear hk); (try clear hi)))
   go_meet
   case rel => exact ⟨_, (!t262), (by first | rfl | (simp; done) | (simp [*]; done)), H', ⟨by first | omega | exact Nat.le_refl _⟩, ⟨pl BK257.out⟩, ⟨pl BK258.out⟩, ⟨pl BK259.out⟩, ⟨pl BK260.out⟩, ⟨by repeat (first | (with_reducible first | exact HB.out | apply below_alloc | apply pw_below_drewN | apply below_drew1 | refine below_set ?_ GE257.out | refine below_set ?_ GE258.out | refine below_set ?_ GE259.out | refine below_set ?_ GE260.out) | exact HB.out)⟩⟩
  ·replace c9 := Bool.eq_false_iff.mpr c9
   subst c9
   have H1 := H; rw [if_neg (show ¬ (false = true) by decide)] at H1
   clear H; have H := H1; clear H1; have H' := Aside0.mk H; clear H; have hnb20 := NB257_258.out; have hnc20 := NB258_257.out; have hnb21 := NB257_259.out; have hnc21 := NB259_257.out; have hnb22 := NB257_260.out; have hnc22 := NB260_257.out; obtain ⟨hcz23_0, hcz23_1, hcz23_2, hcz23_3, hcz23_4, hcz23_5⟩ := cl6 BK257.out; obtain ⟨hfz23_0, hfz23_1, hfz23_2, hfz23_3, hfz23_4, hfz23_5⟩ := fl6 BK257.out
   go_wp2_with (first | ((with_reducible refine gate_callee (f := 43) rfl ?_); refine goesL_ (some 11) rfl rfl Tryd.func43 (by kernel_rfl) rfl #[.agg #[.int .i64 a0_0, .int .i64 a0_1, .int .i64 a0_2, .int .i64 a0_3, .string a0_4, .string a0_5]] rfl (by (try simp only [List.map_toArray, List.map_cons, List.map_nil]); first | done | rfl | (simp only [List.length_drop, List.length_take]; rfl)) ?_; (with_reducible refine (weld_Valid.calls k a0_0 a0_1 a0_2 a0_3 a0_4 a0_5 false _ ?side1 A8.out).mono ?_); (case side1 => first | (with_reducible exact HG.out) | exact Glob.Globs_below HG.out (by repeat (first | (with_reducible first | exact HB.out | apply below_alloc | apply pw_below_drewN | apply below_drew1 | refine below_set ?_ GE257.out | refine below_set ?_ GE258.out | refine below_set ?_ GE259.out | refine below_set ?_ GE260.out) | exact HB.out))); rintro e w24 ⟨rfl, hb⟩; refine ⟨_, rfl, ?_⟩; have n0_ := Aside0.mk (blk_below (pl BK257.out) hb); have n1_ := Aside0.mk (blk_below (pl BK258.out) hb); have n2_ := Aside0.mk (blk_below (pl BK259.out) hb); have n3_ := Aside0.mk (blk_below (pl BK260.out) hb); have n4_ := Aside0.mk (below_step (by repeat (first | (with_reducible first | exact HB.out | apply below_alloc | apply pw_below_drewN | apply below_drew1 | refine below_set ?_ GE257.out | refine below_set ?_ GE258.out | refine below_set ?_ GE259.out | refine below_set ?_ GE260.out) | exact HB.out)) hb); clear BK257; clear BK258; clear BK259; clear BK260; clear HB; have BK257 := n0_; have BK258 := n1_; have BK259 := n2_; have BK260 := n3_; have HB := n4_; clear n0_ n1_ n2_ n3_ n4_; (try clear hb); (try clear hb2); (try clear hk); (try clear hi)))
   go_meet
   case rel => exact ⟨_, (true), (by first | rfl | (simp; done) | (simp [*]; done)), H', ⟨by first | omega | exact Nat.le_refl _⟩, ⟨pl BK257.out⟩, ⟨pl BK258.out⟩, ⟨pl BK259.out⟩, ⟨pl BK260.out⟩, ⟨by repeat (first | (with_reducible first | exact HB.out | apply below_alloc | apply pw_below_drewN | apply below_drew1 | refine below_set ?_ GE257.out | refine below_set ?_ GE258.out | refine below_set ?_ GE259.out | refine below_set ?_ GE260.out) | exact HB.out)⟩⟩
 case rest =>
  clear HC3; (try clear c1); (try clear c2); (try clear p2); (try clear c3); (try clear c4); (try clear c9); (try clear c11); (try clear c12); (try clear c13); (try clear c16); (try clear c17); (try clear c20); (try clear c21); (try clear c22); (try clear hcz14_0); (try clear hcz14_1); (try clear hcz14_2); (try clear hcz14_3); (try clear hcz14_4); (try clear hcz14_5); (try clear hcz18_0); (try clear hcz18_1); (try clear hcz18_2); (try clear hcz18_3); (try clear hcz18_4); (try clear hcz18_5); (try clear hcz23_0); (try clear hcz23_1); (try clear hcz23_2); (try clear hcz23_3); (try clear hcz23_4); (try clear hcz23_5); (try clear hfz14_0); (try clear hfz14_1); (try clear hfz14_2); (try clear hfz14_3); (try clear hfz14_4); (try clear hfz14_5); (try clear hfz18_0); (try clear hfz18_1); (try clear hfz18_2); (try clear hfz18_3); (try clear hfz18_4); (try clear hfz18_5); (try clear hfz23_0); (try clear hfz23_1); (try clear hfz23_2); (try clear hfz23_3); (try clear hfz23_4); (try clear hfz23_5)
  obtain ⟨kq, x9_2, rfl, HA, HJ2, BK257, BK258, BK259, BK260, HB⟩ := hcut
  cases kq with
  | zero => exact absurd HA.out (by simp [weld_both.j0])
  | succ kj2 =>
   have H := HA.out; clear HA
   simp only [weld_both.j0] at H
   by_cases c25 : x9_2 = true
   ·subst c25
    have H1 := H; rw [if_pos rfl] at H1
    clear H; have H := H1; clear H1
    simp only [Option.some.injEq, Prod.mk.injEq] at H
    obtain ⟨rfl, rfl, rfl, rfl, rfl, rfl, rfl, rfl, rfl, rfl, rfl⟩ := H
    have hnb26 := NB259_257.out; have hnc26 := NB257_259.out; have hnb27 := NB259_258.out; have hnc27 := NB258_259.out; have hnb28 := NB259_260.out; have hnc28 := NB260_259.out; obtain ⟨hcz29_0, hcz29_1, hcz29_2, hcz29_3, hcz29_4, hcz29_5⟩ := cl6 BK259.out; obtain ⟨hfz29_0, hfz29_1, hfz29_2, hfz29_3, hfz29_4, hfz29_5⟩ := fl6 BK259.out; have hnb30 := NB260_257.out; have hnc30 := NB257_260.out; have hnb31 := NB260_258.out; have hnc31 := NB258_260.out; obtain ⟨hcz32_0, hcz32_1, hcz32_2, hcz32_3⟩ := cl4 BK260.out; obtain ⟨hfz32_0, hfz32_1, hfz32_2, hfz32_3⟩ := fl4 BK260.out
    go_wp2
    refine bodyPost_ret (results_list (rs := [.cell 4 36, .cell 5 34, .tmp 6]) rfl (by simp) (.cell gb259 36 #[.int .i64 0, .int .i64 0, .int .i64 0, .int .i64 0, .string (⟨#[]⟩ : ByteArray), .string (⟨#[]⟩ : ByteArray)] (0, 0) _ rfl (by refine pl ?_; refine blk_far ?_ NB259_260.out _; refine pl ?_; refine blk_far ?_ NB259_260.out _; refine pl ?_; refine blk_far ?_ NB259_260.out _; refine pl ?_; refine blk_far ?_ NB259_260.out _; refine pl ?_; refine blk_put (cs := #[.int .i64 0, .int .i64 0, .int .i64 0, .int .i64 0, .string (⟨#[]⟩ : ByteArray), .string (⟨#[]⟩ : ByteArray)]) ?_ 5 _ rfl; refine pl ?_; refine blk_put (cs := #[.int .i64 0, .int .i64 0, .int .i64 0, .int .i64 0, .string (⟨#[]⟩ : ByteArray), .string (⟨#[]⟩ : ByteArray)]) ?_ 4 _ rfl; refine pl ?_; refine blk_put (cs := #[.int .i64 0, .int .i64 0, .int .i64 0, .int .i64 0, .string (⟨#[]⟩ : ByteArray), .string (⟨#[]⟩ : ByteArray)]) ?_ 3 _ rfl; refine pl ?_; refine blk_put (cs := #[.int .i64 0, .int .i64 0, .int .i64 0, .int .i64 0, .string (⟨#[]⟩ : ByteArray), .string (⟨#[]⟩ : ByteArray)]) ?_ 2 _ rfl; refine pl ?_; refine blk_put (cs := #[.int .i64 0, .int .i64 0, .int .i64 0, .int .i64 0, .string (⟨#[]⟩ : ByteArray), .string (⟨#[]⟩ : ByteArray)]) ?_ 1 _ rfl; refine pl ?_; refine blk_put (cs := #[.int .i64 0, .int .i64 0, .int .i64 0, .int .i64 0, .string (⟨#[]⟩ : ByteArray), .string (⟨#[]⟩ : ByteArray)]) ?_ 0 _ rfl; refine pl ?_; exact BK259.out) Tryd.underlying36 rfl (by kernel_rfl) (.cell gb260 34 #[.int .i64 0, .int .i64 0, .int .i64 0, .int .i64 0] (0, 0) _ rfl (by refine pl ?_; refine blk_put (cs := #[.int .i64 0, .int .i64 0, .int .i64 0, .int .i64 0]) ?_ 3 _ rfl; refine pl ?_; refine blk_put (cs := #[.int .i64 0, .int .i64 0, .int .i64 0, .int .i64 0]) ?_ 2 _ rfl; refine pl ?_; refine blk_put (cs := #[.int .i64 0, .int .i64 0, .int .i64 0, .int .i64 0]) ?_ 1 _ rfl; refine pl ?_; refine blk_put (cs := #[.int .i64 0, .int .i64 0, .int .i64 0, .int .i64 0]) ?_ 0 _ rfl; refine pl ?_; refine blk_far ?_ NB260_259.out _; refine pl ?_; refine blk_far ?_ NB260_259.out _; refine pl ?_; refine blk_far ?_ NB260_259.out _; refine pl ?_; refine blk_far ?_ NB260_259.out _; refine pl ?_; refine blk_far ?_ NB260_259.out _; refine pl ?_; refine blk_far ?_ NB260_259.out _; refine pl ?_; exact BK260.out) Tryd.underlying34 rfl (by kernel_rfl) (.tmp .nil)))) rfl ?_
    exact ⟨by first | rfl | (simp [*] <;> rfl), by repeat (first | (with_reducible first | exact HB.out | apply below_alloc | apply pw_below_drewN | apply below_drew1 | refine below_set ?_ GE257.out | refine below_set ?_ GE258.out | refine below_set ?_ GE259.out | refine below_set ?_ GE260.out) | exact HB.out)⟩
   ·replace c25 := Bool.eq_false_iff.mpr c25
    subst c25
    have H1 := H; rw [if_neg (show ¬ (false = true) by decide)] at H1
    clear H; have H := H1; clear H1
    by_cases c33 : (wrap64 (a0_0 + a1_0)) > 268435456
    ·rw [if_pos c33] at H
     have c33b0 : decide (268435456 < (wrap64 (a0_0 + a1_0))) = true := decide_eq_true c33
     clear c33
     simp only [Option.some.injEq, Prod.mk.injEq] at H
     obtain ⟨rfl, rfl, rfl, rfl, rfl, rfl, rfl, rfl, rfl, rfl, rfl⟩ := H
     have hnb34 := NB257_258.out; have hnc34 := NB258_257.out; have hnb35 := NB257_259.out; have hnc35 := NB259_257.out; have hnb36 := NB257_260.out; have hnc36 := NB260_257.out; obtain ⟨hcz37_0, hcz37_1, hcz37_2, hcz37_3, hcz37_4, hcz37_5⟩ := cl6 BK257.out; obtain ⟨hfz37_0, hfz37_1, hfz37_2, hfz37_3, hfz37_4, hfz37_5⟩ := fl6 BK257.out; have hnb38 := NB258_259.out; have hnc38 := NB259_258.out; have hnb39 := NB258_260.out; have hnc39 := NB260_258.out; obtain ⟨hcz40_0, hcz40_1, hcz40_2, hcz40_3, hcz40_4, hcz40_5⟩ := cl6 BK258.out; obtain ⟨hfz40_0, hfz40_1, hfz40_2, hfz40_3, hfz40_4, hfz40_5⟩ := fl6 BK258.out; have hnb41 := NB259_260.out; have hnc41 := NB260_259.out; obtain ⟨hcz42_0, hcz42_1, hcz42_2, hcz42_3, hcz42_4, hcz42_5⟩ := cl6 BK259.out; obtain ⟨hfz42_0, hfz42_1, hfz42_2, hfz42_3, hfz42_4, hfz42_5⟩ := fl6 BK259.out; obtain ⟨hcz43_0, hcz43_1, hcz43_2, hcz43_3⟩ := cl4 BK260.out; obtain ⟨hfz43_0, hfz43_1, hfz43_2, hfz43_3⟩ := fl4 BK260.out
     go_wp2
     refine bodyPost_ret (results_list (rs := [.cell 4 36, .cell 5 34, .tmp 6]) rfl (by simp) (.cell gb259 36 #[.int .i64 0, .int .i64 0, .int .i64 0, .int .i64 0, .string (⟨#[]⟩ : ByteArray), .string (⟨#[]⟩ : ByteArray)] (0, 0) _ rfl (by refine pl ?_; refine blk_far ?_ NB259_260.out _; refine pl ?_; refine blk_far ?_ NB259_260.out _; refine pl ?_; refine blk_far ?_ NB259_260.out _; refine pl ?_; refine blk_far ?_ NB259_260.out _; refine pl ?_; refine blk_put (cs := #[.int .i64 0, .int .i64 0, .int .i64 0, .int .i64 0, .string (⟨#[]⟩ : ByteArray), .string (⟨#[]⟩ : ByteArray)]) ?_ 5 _ rfl; refine pl ?_; refine blk_put (cs := #[.int .i64 0, .int .i64 0, .int .i64 0, .int .i64 0, .string (⟨#[]⟩ : ByteArray), .string (⟨#[]⟩ : ByteArray)]) ?_ 4 _ rfl; refine pl ?_; refine blk_put (cs := #[.int .i64 0, .int .i64 0, .int .i64 0, .int .i64 0, .string (⟨#[]⟩ : ByteArray), .string (⟨#[]⟩ : ByteArray)]) ?_ 3 _ rfl; refine pl ?_; refine blk_put (cs := #[.int .i64 0, .int .i64 0, .int .i64 0, .int .i64 0, .string (⟨#[]⟩ : ByteArray), .string (⟨#[]⟩ : ByteArray)]) ?_ 2 _ rfl; refine pl ?_; refine blk_put (cs := #[.int .i64 0, .int .i64 0, .int .i64 0, .int .i64 0, .string (⟨#[]⟩ : ByteArray), .string (⟨#[]⟩ : ByteArray)]) ?_ 1 _ rfl; refine pl ?_; refine blk_put (cs := #[.int .i64 0, .int .i64 0, .int .i64 0, .int .i64 0, .string (⟨#[]⟩ : ByteArray), .string (⟨#[]⟩ : ByteArray)]) ?_ 0 _ rfl; refine pl ?_; exact BK259.out) Tryd.underlying36 rfl (by kernel_rfl) (.cell gb260 34 #[.int .i64 0, .int .i64 0, .int .i64 0, .int .i64 0] (0, 0) _ rfl (by refine pl ?_; refine blk_put (cs := #[.int .i64 0, .int .i64 0, .int .i64 0, .int .i64 0]) ?_ 3 _ rfl; refine pl ?_; refine blk_put (cs := #[.int .i64 0, .int .i64 0, .int .i64 0, .int .i64 0]) ?_ 2 _ rfl; refine pl ?_; refine blk_put (cs := #[.int .i64 0, .int .i64 0, .int .i64 0, .int .i64 0]) ?_ 1 _ rfl; refine pl ?_; refine blk_put (cs := #[.int .i64 0, .int .i64 0, .int .i64 0, .int .i64 0]) ?_ 0 _ rfl; refine pl ?_; refine blk_far ?_ NB260_259.out _; refine pl ?_; refine blk_far ?_ NB260_259.out _; refine pl ?_; refine blk_far ?_ NB260_259.out _; refine pl ?_; refine blk_far ?_ NB260_259.out _; refine pl ?_; refine blk_far ?_ NB260_259.out _; refine pl ?_; refine blk_far ?_ NB260_259.out _; refine pl ?_; exact BK260.out) Tryd.underlying34 rfl (by kernel_rfl) (.tmp .nil)))) rfl ?_
     exact ⟨by first | rfl | (simp [*] <;> rfl), by repeat (first | (with_reducible first | exact HB.out | apply below_alloc | apply pw_below_drewN | apply below_drew1 | refine below_set ?_ GE257.out | refine below_set ?_ GE258.out | refine below_set ?_ GE259.out | refine below_set ?_ GE260.out) | exact HB.out)⟩
    ·rw [if_neg c33] at H
     have c33b0 : decide (268435456 < (wrap64 (a0_0 + a1_0))) = false := decide_eq_false c33
     clear c33
     replace H := Option.bind_eq_some_iff.mp H
     obtain ⟨⟨t263, t264, t265, t266⟩, A440, H⟩ := H
     have A44 := Aside0.mk A440; clear A440
     replace H := Option.bind_eq_some_iff.mp H
     obtain ⟨⟨t268, t269, t270, t271⟩, A450, H⟩ := H
     have A45 := Aside0.mk A450; clear A450
     replace H := Option.bind_eq_some_iff.mp H
     obtain ⟨⟨t272, t273, t274, t275⟩, A460, H⟩ := H
     have A46 := Aside0.mk A460; clear A460; have HC47 := Aside0.mk H; clear H; have hnb48 := NB257_258.out; have hnc48 := NB258_257.out; have hnb49 := NB257_259.out; have hnc49 := NB259_257.out; have hnb50 := NB257_260.out; have hnc50 := NB260_257.out; obtain ⟨hcz51_0, hcz51_1, hcz51_2, hcz51_3, hcz51_4, hcz51_5⟩ := cl6 BK257.out; obtain ⟨hfz51_0, hfz51_1, hfz51_2, hfz51_3, hfz51_4, hfz51_5⟩ := fl6 BK257.out; have hnb52 := NB258_259.out; have hnc52 := NB259_258.out; have hnb53 := NB258_260.out; have hnc53 := NB260_258.out; obtain ⟨hcz54_0, hcz54_1, hcz54_2, hcz54_3, hcz54_4, hcz54_5⟩ := cl6 BK258.out; obtain ⟨hfz54_0, hfz54_1, hfz54_2, hfz54_3, hfz54_4, hfz54_5⟩ := fl6 BK258.out
     try go_wp2_with (first | ((with_reducible refine gate_callee (f := 44) rfl ?_); refine goesL_ (some 33) rfl rfl Tryd.func44 (by kernel_rfl) rfl #[.agg #[.int .i64 a0_0, .int .i64 a0_1, .int .i64 a0_2, .int .i64 a0_3, .string a0_4, .string a0_5], .agg #[.int .i64 a1_0, .int .i64 a1_1, .int .i64 a1_2, .int .i64 a1_3, .string a1_4, .string a1_5]] rfl (by (try simp only [List.map_toArray, List.map_cons, List.map_nil]); first | done | rfl | (simp only [List.length_drop, List.length_take]; rfl)) ?_; (with_reducible refine (weld_seam.calls kj2 a0_0 a0_1 a0_2 a0_3 a0_4 a0_5 a1_0 a1_1 a1_2 a1_3 a1_4 a1_5 t263 t264 t265 t266 _ ?side1 A44.out).mono ?_); (case side1 => first | (with_reducible exact HG.out) | exact Glob.Globs_below HG.out (by repeat (first | (with_reducible first | exact HB.out | apply below_alloc | apply pw_below_drewN | apply below_drew1 | refine below_set ?_ GE257.out | refine below_set ?_ GE258.out | refine below_set ?_ GE259.out | refine below_set ?_ GE260.out) | exact HB.out))); rintro e w55 ⟨rfl, hb⟩; refine ⟨_, rfl, ?_⟩; have n0_ := Aside0.mk (blk_below (pl BK257.out) hb); have n1_ := Aside0.mk (blk_below (pl BK258.out) hb); have n2_ := Aside0.mk (blk_below (pl BK259.out) hb); have n3_ := Aside0.mk (blk_below (pl BK260.out) hb); have n4_ := Aside0.mk (below_step (by repeat (first | (with_reducible first | exact HB.out | apply below_alloc | apply pw_below_drewN | apply below_drew1 | refine below_set ?_ GE257.out | refine below_set ?_ GE258.out | refine below_set ?_ GE259.out | refine below_set ?_ GE260.out) | exact HB.out)) hb); clear BK257; clear BK258; clear BK259; clear BK260; clear HB; have BK257 := n0_; have BK258 := n1_; have BK259 := n2_; have BK260 := n3_; have HB := n4_; clear n0_ n1_ n2_ n3_ n4_; (try clear hb); (try clear hb2); (try clear hk); (try clear hi)) | ((with_reducible refine gate_dst (N := 7) rfl ?_); refine box_event ?hg (N := 7) ?hd (cs := #[.int .i64 0, .int .i64 0, .int .i64 0, .int .i64 0]) (t := 34) ?hr ?_; (case hd => rfl); (case hg => rfl); (case hr => first | (go_simp; done) | (go_simp; rfl)); intro gb267 hg w56 hbox hb; have n0_ := Aside0.mk (blk_below (pl BK257.out) hb); have n1_ := Aside0.mk (blk_below (pl BK258.out) hb); have n2_ := Aside0.mk (blk_below (pl BK259.out) hb); have n3_ := Aside0.mk (blk_below (pl BK260.out) hb); have n4_ := Aside0.mk (below_step (by repeat (first | (with_reducible first | exact HB.out | apply below_alloc | apply pw_below_drewN | apply below_drew1 | refine below_set ?_ GE257.out | refine below_set ?_ GE258.out | refine below_set ?_ GE259.out | refine below_set ?_ GE260.out) | exact HB.out)) hb); have n5_ := Aside0.mk (hbox); have n6_ := Aside0.mk ((by rw [hg]; exact (below_size (by repeat (first | (with_reducible first | exact HB.out | apply below_alloc | apply pw_below_drewN | apply below_drew1 | refine below_set ?_ GE257.out | refine below_set ?_ GE258.out | refine below_set ?_ GE259.out | refine below_set ?_ GE260.out) | exact HB.out))) : w.heap.size ≤ gb267)); have n7_ := Aside0.mk ((by rw [hg]; exact (below_size (by repeat (first | (with_reducible first | exact HB.out | apply below_alloc | apply pw_below_drewN | apply below_drew1 | refine below_set ?_ GE257.out | refine below_set ?_ GE258.out | refine below_set ?_ GE259.out | refine below_set ?_ GE260.out) | exact HB.out))) : w.heap.size ≤ gb267)); have n8_ := Aside0.mk ((by rw [hg]; exact Nat.ne_of_lt (blk_lt (pl BK257.out)) : gb257 ≠ gb267)); have n9_ := Aside0.mk ((by rw [hg]; exact Nat.ne_of_gt (blk_lt (pl BK257.out)) : gb267 ≠ gb257)); have n10_ := Aside0.mk ((by rw [hg]; exact Nat.ne_of_lt (blk_lt (pl BK258.out)) : gb258 ≠ gb267)); have n11_ := Aside0.mk ((by rw [hg]; exact Nat.ne_of_gt (blk_lt (pl BK258.out)) : gb267 ≠ gb258)); have n12_ := Aside0.mk ((by rw [hg]; exact Nat.ne_of_lt (blk_lt (pl BK259.out)) : gb259 ≠ gb267)); have n13_ := Aside0.mk ((by rw [hg]; exact Nat.ne_of_gt (blk_lt (pl BK259.out)) : gb267 ≠ gb259)); have n14_ := Aside0.mk ((by rw [hg]; exact Nat.ne_of_lt (blk_lt (pl BK260.out)) : gb260 ≠ gb267)); have n15_ := Aside0.mk ((by rw [hg]; exact Nat.ne_of_gt (blk_lt (pl BK260.out)) : gb267 ≠ gb260)); clear BK257; clear BK258; clear BK259; clear BK260; clear HB; have BK257 := n0_; have BK258 := n1_; have BK259 := n2_; have BK260 := n3_; have HB := n4_; have BK267 := n5_; have GW267 := n6_; have GE267 := n7_; have NB257_267 := n8_; have NB267_257 := n9_; have NB258_267 := n10_; have NB267_258 := n11_; have NB259_267 := n12_; have NB267_259 := n13_; have NB260_267 := n14_; have NB267_260 := n15_; clear n0_ n1_ n2_ n3_ n4_ n5_ n6_ n7_ n8_ n9_ n10_ n11_ n12_ n13_ n14_ n15_; clear hb hbox hg; have hnb57 := NB267_257.out; have hnc57 := NB257_267.out; have hnb58 := NB267_258.out; have hnc58 := NB258_267.out; have hnb59 := NB267_259.out; have hnc59 := NB259_267.out; have hnb60 := NB267_260.out; have hnc60 := NB260_267.out; obtain ⟨hcz61_0, hcz61_1, hcz61_2, hcz61_3⟩ := cl4 BK267.out; obtain ⟨hfz61_0, hfz61_1, hfz61_2, hfz61_3⟩ := fl4 BK267.out))
     have n0_ : Aside0 (((((w56.setCell ⟨gb267, 0, none⟩ (.int .i64 t263)).setCell ⟨gb267, 1, none⟩ (.int .i64 t264)).setCell ⟨gb267, 2, none⟩ (.int .i64 t265)).setCell ⟨gb267, 3, none⟩ (.int .i64 t266)).heap[gb257]? = some (.cells #[.int .i64 a0_0, .int .i64 a0_1, .int .i64 a0_2, .int .i64 a0_3, .string a0_4, .string a0_5] 36 (0, 0))) := ⟨by refine pl ?_; refine blk_far ?_ NB257_267.out _; refine pl ?_; refine blk_far ?_ NB257_267.out _; refine pl ?_; refine blk_far ?_ NB257_267.out _; refine pl ?_; refine blk_far ?_ NB257_267.out _; refine pl ?_; exact BK257.out⟩
     have n1_ : Aside0 (((((w56.setCell ⟨gb267, 0, none⟩ (.int .i64 t263)).setCell ⟨gb267, 1, none⟩ (.int .i64 t264)).setCell ⟨gb267, 2, none⟩ (.int .i64 t265)).setCell ⟨gb267, 3, none⟩ (.int .i64 t266)).heap[gb258]? = some (.cells #[.int .i64 a1_0, .int .i64 a1_1, .int .i64 a1_2, .int .i64 a1_3, .string a1_4, .string a1_5] 36 (0, 0))) := ⟨by refine pl ?_; refine blk_far ?_ NB258_267.out _; refine pl ?_; refine blk_far ?_ NB258_267.out _; refine pl ?_; refine blk_far ?_ NB258_267.out _; refine pl ?_; refine blk_far ?_ NB258_267.out _; refine pl ?_; exact BK258.out⟩
     have n2_ : Aside0 (((((w56.setCell ⟨gb267, 0, none⟩ (.int .i64 t263)).setCell ⟨gb267, 1, none⟩ (.int .i64 t264)).setCell ⟨gb267, 2, none⟩ (.int .i64 t265)).setCell ⟨gb267, 3, none⟩ (.int .i64 t266)).heap[gb259]? = some (.cells #[.int .i64 0, .int .i64 0, .int .i64 0, .int .i64 0, .string (⟨#[]⟩ : ByteArray), .string (⟨#[]⟩ : ByteArray)] 36 (0, 0))) := ⟨by refine pl ?_; refine blk_far ?_ NB259_267.out _; refine pl ?_; refine blk_far ?_ NB259_267.out _; refine pl ?_; refine blk_far ?_ NB259_267.out _; refine pl ?_; refine blk_far ?_ NB259_267.out _; refine pl ?_; exact BK259.out⟩
     have n3_ : Aside0 (((((w56.setCell ⟨gb267, 0, none⟩ (.int .i64 t263)).setCell ⟨gb267, 1, none⟩ (.int .i64 t264)).setCell ⟨gb267, 2, none⟩ (.int .i64 t265)).setCell ⟨gb267, 3, none⟩ (.int .i64 t266)).heap[gb260]? = some (.cells #[.int .i64 0, .int .i64 0, .int .i64 0, .int .i64 0] 34 (0, 0))) := ⟨by refine pl ?_; refine blk_far ?_ NB260_267.out _; refine pl ?_; refine blk_far ?_ NB260_267.out _; refine pl ?_; refine blk_far ?_ NB260_267.out _; refine pl ?_; refine blk_far ?_ NB260_267.out _; refine pl ?_; exact BK260.out⟩
     have n4_ : Aside0 (((((w56.setCell ⟨gb267, 0, none⟩ (.int .i64 t263)).setCell ⟨gb267, 1, none⟩ (.int .i64 t264)).setCell ⟨gb267, 2, none⟩ (.int .i64 t265)).setCell ⟨gb267, 3, none⟩ (.int .i64 t266)).heap[gb267]? = some (.cells #[.int .i64 t263, .int .i64 t264, .int .i64 t265, .int .i64 t266] 34 (0, 0))) := ⟨by refine pl ?_; refine blk_put (cs := #[.int .i64 t263, .int .i64 t264, .int .i64 t265, .int .i64 0]) ?_ 3 _ rfl; refine pl ?_; refine blk_put (cs := #[.int .i64 t263, .int .i64 t264, .int .i64 0, .int .i64 0]) ?_ 2 _ rfl; refine pl ?_; refine blk_put (cs := #[.int .i64 t263, .int .i64 0, .int .i64 0, .int .i64 0]) ?_ 1 _ rfl; refine pl ?_; refine blk_put (cs := #[.int .i64 0, .int .i64 0, .int .i64 0, .int .i64 0]) ?_ 0 _ rfl; refine pl ?_; exact BK267.out⟩
     have n5_ : Aside0 (Below w.heap.size w ((((w56.setCell ⟨gb267, 0, none⟩ (.int .i64 t263)).setCell ⟨gb267, 1, none⟩ (.int .i64 t264)).setCell ⟨gb267, 2, none⟩ (.int .i64 t265)).setCell ⟨gb267, 3, none⟩ (.int .i64 t266))) := ⟨by repeat (first | (with_reducible first | exact HB.out | apply below_alloc | apply pw_below_drewN | apply below_drew1 | refine below_set ?_ GE257.out | refine below_set ?_ GE258.out | refine below_set ?_ GE259.out | refine below_set ?_ GE260.out | refine below_set ?_ GE267.out) | exact HB.out)⟩
     (try clear BK257)
     (try clear BK258)
     (try clear BK259)
     (try clear BK260)
     (try clear BK267)
     (try clear HB)
     generalize ((((w56.setCell ⟨gb267, 0, none⟩ (.int .i64 t263)).setCell ⟨gb267, 1, none⟩ (.int .i64 t264)).setCell ⟨gb267, 2, none⟩ (.int .i64 t265)).setCell ⟨gb267, 3, none⟩ (.int .i64 t266)) = w62 at n0_ n1_ n2_ n3_ n4_ n5_ ⊢
     have BK257 := n0_; have BK258 := n1_; have BK259 := n2_; have BK260 := n3_; have BK267 := n4_; have HB := n5_; clear n0_ n1_ n2_ n3_ n4_ n5_
     have n0_ := Aside0.mk (blk_drew BK257.out)
     have n1_ := Aside0.mk (blk_drew BK258.out)
     have n2_ := Aside0.mk (blk_drew BK259.out)
     have n3_ := Aside0.mk (blk_drew BK260.out)
     have n4_ := Aside0.mk (blk_drew BK267.out)
     have n5_ := Aside0.mk (below_drew1 HB.out)
     clear BK257; clear BK258; clear BK259; clear BK260; clear BK267; clear HB; have BK257 := n0_; have BK258 := n1_; have BK259 := n2_; have BK260 := n3_; have BK267 := n4_; have HB := n5_; clear n0_ n1_ n2_ n3_ n4_ n5_
     refine start_ (n := 14) (S := fun w' => w'.cell? ⟨gb257, 0, none⟩ = some (.int .i64 a0_0) ∧ w'.cell? ⟨gb257, 1, none⟩ = some (.int .i64 a0_1) ∧ w'.cell? ⟨gb257, 2, none⟩ = some (.int .i64 a0_2) ∧ w'.cell? ⟨gb257, 3, none⟩ = some (.int .i64 a0_3) ∧ w'.cell? ⟨gb257, 4, none⟩ = some (.string a0_4) ∧ w'.cell? ⟨gb257, 5, none⟩ = some (.string a0_5) ∧ w'.cell? ⟨gb258, 0, none⟩ = some (.int .i64 a1_0) ∧ w'.cell? ⟨gb258, 1, none⟩ = some (.int .i64 a1_1) ∧ w'.cell? ⟨gb258, 2, none⟩ = some (.int .i64 a1_2) ∧ w'.cell? ⟨gb258, 3, none⟩ = some (.int .i64 a1_3) ∧ w'.cell? ⟨gb258, 4, none⟩ = some (.string a1_4) ∧ w'.cell? ⟨gb258, 5, none⟩ = some (.string a1_5) ∧ w'.cell? ⟨gb267, 0, none⟩ = some (.int .i64 t263) ∧ w'.cell? ⟨gb267, 1, none⟩ = some (.int .i64 t264) ∧ w'.cell? ⟨gb267, 2, none⟩ = some (.int .i64 t265) ∧ w'.cell? ⟨gb267, 3, none⟩ = some (.int .i64 t266)) (ds := []) #[false, false, false, false, false, false, false, false, false, false, false, false, false, false] (by kernel_rfl) rfl rfl ⟨(blk_cell BK257.out 0).trans rfl, (blk_cell BK257.out 1).trans rfl, (blk_cell BK257.out 2).trans rfl, (blk_cell BK257.out 3).trans rfl, (blk_cell BK257.out 4).trans rfl, (blk_cell BK257.out 5).trans rfl, (blk_cell BK258.out 0).trans rfl, (blk_cell BK258.out 1).trans rfl, (blk_cell BK258.out 2).trans rfl, (blk_cell BK258.out 3).trans rfl, (blk_cell BK258.out 4).trans rfl, (blk_cell BK258.out 5).trans rfl, (blk_cell BK267.out 0).trans rfl, (blk_cell BK267.out 1).trans rfl, (blk_cell BK267.out 2).trans rfl, (blk_cell BK267.out 3).trans rfl⟩ (fun hHeld => ?_); refine with_tabW weld_both.tab6 weld_both.bits6 (fun HT_ HW_ => ?_)
     generalize w62.drew = w63 at BK257 BK258 BK259 BK260 BK267 HB hHeld ⊢
     refine pure_ (i := 0) (N := some 34) (v := ?_) (a' := ?_) #[true, false, false, false, false, false, false, false, false, false, false, false, false, false] rfl rfl (any_of HT_.out (by kernel_rfl)) (fun _ _ _ h => h) (Or.inl ⟨by rfl, ?_⟩) ?_ ?_
     rotate_left
     ·intro w'
      go_simp
      with_reducible rfl
     rotate_left
     ·simp only [Act.put, List.setIfInBounds_toArray, List.set_cons_zero, List.set_cons_succ, i64_w, i32_w]
      rfl
     refine pure_ (i := 2) (N := some 36) (v := ?_) (a' := ?_) #[true, false, true, false, false, false, false, false, false, false, false, false, false, false] rfl rfl (any_of HT_.out (by kernel_rfl)) (fun _ _ _ h => h) (Or.inl ⟨by rfl, ?_⟩) ?_ ?_
     rotate_left
     ·intro w'
      go_simp
      with_reducible rfl
     rotate_left
     ·simp only [Act.put, List.setIfInBounds_toArray, List.set_cons_zero, List.set_cons_succ, i64_w, i32_w]
      rfl
     refine pure_ (i := 7) (N := some 41) (v := ?_) (a' := ?_) #[true, false, true, false, false, false, false, true, false, false, false, false, false, false] rfl rfl (any_of HT_.out (by kernel_rfl)) (fun _ _ _ h => h) (Or.inl ⟨by rfl, ?_⟩) ?_ ?_
     rotate_left
     ·intro w'
      go_simp
      with_reducible rfl
     rotate_left
     ·simp only [Act.put, List.setIfInBounds_toArray, List.set_cons_zero, List.set_cons_succ, i64_w, i32_w]
      rfl
     refine pure_ (i := 9) (N := some 43) (v := ?_) (a' := ?_) #[true, false, true, false, false, false, false, true, false, true, false, false, false, false] rfl rfl (any_of HT_.out (by kernel_rfl)) (fun _ _ _ h => h) (Or.inl ⟨by rfl, ?_⟩) ?_ ?_
     rotate_left
     ·intro w'
      go_simp
      with_reducible rfl
     rotate_left
     ·simp only [Act.put, List.setIfInBounds_toArray, List.set_cons_zero, List.set_cons_succ, i64_w, i32_w]
      rfl
     refine take_ (i := 1) (N := some 35) (v := ?_) (a' := ?_) #[true, true, true, false, false, false, false, true, false, true, false, false, false, false] rfl rfl (take_ofW HT_.out HW_.out (by kernel_rfl)) (fun _ _ _ h => h) (Or.inl ⟨by rfl, ?_⟩) hHeld ?_ ?_
     rotate_left
     ·rintro w' ⟨s0, s1, s2, s3, s4, s5, s6, s7, s8, s9, s10, s11, s12, s13, s14, s15⟩
      go_simp
      with_reducible rfl
     rotate_left
     ·simp only [Act.put, List.setIfInBounds_toArray, List.set_cons_zero, List.set_cons_succ, i64_w, i32_w]
      rfl
     refine take_ (i := 3) (N := some 37) (v := ?_) (a' := ?_) #[true, true, true, true, false, false, false, true, false, true, false, false, false, false] rfl rfl (take_ofW HT_.out HW_.out (by kernel_rfl)) (fun _ _ _ h => h) (Or.inl ⟨by rfl, ?_⟩) hHeld ?_ ?_
     rotate_left
     ·rintro w' ⟨s0, s1, s2, s3, s4, s5, s6, s7, s8, s9, s10, s11, s12, s13, s14, s15⟩
      go_simp
      with_reducible rfl
     rotate_left
     ·simp only [Act.put, List.setIfInBounds_toArray, List.set_cons_zero, List.set_cons_succ, i64_w, i32_w]
      rfl
     refine take_ (i := 5) (N := some 39) (v := ?_) (a' := ?_) #[true, true, true, true, false, true, false, true, false, true, false, false, false, false] rfl rfl (take_ofW HT_.out HW_.out (by kernel_rfl)) (fun _ _ _ h => h) (Or.inl ⟨by rfl, ?_⟩) hHeld ?_ ?_
     rotate_left
     ·rintro w' ⟨s0, s1, s2, s3, s4, s5, s6, s7, s8, s9, s10, s11, s12, s13, s14, s15⟩
      go_simp
      with_reducible rfl
     rotate_left
     ·simp only [Act.put, List.setIfInBounds_toArray, List.set_cons_zero, List.set_cons_succ, i64_w, i32_w]
      rfl
     refine take_ (i := 8) (N := some 42) (v := ?_) (a' := ?_) #[true, true, true, true, false, true, false, true, true, true, false, false, false, false] rfl rfl (take_ofW HT_.out HW_.out (by kernel_rfl)) (fun _ _ _ h => h) (Or.inl ⟨by rfl, ?_⟩) hHeld ?_ ?_
     rotate_left
     ·rintro w' ⟨s0, s1, s2, s3, s4, s5, s6, s7, s8, s9, s10, s11, s12, s13, s14, s15⟩
      go_simp
      with_reducible rfl
     rotate_left
     ·simp only [Act.put, List.setIfInBounds_toArray, List.set_cons_zero, List.set_cons_succ, i64_w, i32_w]
      rfl
     refine take_ (i := 10) (N := some 44) (v := ?_) (a' := ?_) #[true, true, true, true, false, true, false, true, true, true, true, false, false, false] rfl rfl (take_ofW HT_.out HW_.out (by kernel_rfl)) (fun _ _ _ h => h) (Or.inl ⟨by rfl, ?_⟩) hHeld ?_ ?_
     rotate_left
     ·rintro w' ⟨s0, s1, s2, s3, s4, s5, s6, s7, s8, s9, s10, s11, s12, s13, s14, s15⟩
      go_simp
      with_reducible rfl
     rotate_left
     ·simp only [Act.put, List.setIfInBounds_toArray, List.set_cons_zero, List.set_cons_succ, i64_w, i32_w]
      rfl
     refine join_ (σ := Nat) 1 #[true, true, true, true, true, true, true, true, true, true, true, true, true, false] (fun s_ => [(38, .agg #[.int .i64 t268, .int .i64 t269, .int .i64 t270, .int .i64 t271]), (40, .agg #[.int .i64 t272, .int .i64 t273, .int .i64 t274, .int .i64 t275]), (8, .pointer (some ⟨s_, 0, none⟩)), (45, .agg #[.int .i64 t272, .int .i64 t273, .int .i64 t274, .int .i64 t275, .string a0_4, .string a1_5])]) (fun s_ w' => (w'.cell? ⟨gb257, 0, none⟩ = some (.int .i64 a0_0) ∧ w'.cell? ⟨gb257, 1, none⟩ = some (.int .i64 a0_1) ∧ w'.cell? ⟨gb257, 2, none⟩ = some (.int .i64 a0_2) ∧ w'.cell? ⟨gb257, 3, none⟩ = some (.int .i64 a0_3) ∧ w'.cell? ⟨gb257, 4, none⟩ = some (.string a0_4) ∧ w'.cell? ⟨gb257, 5, none⟩ = some (.string a0_5) ∧ w'.cell? ⟨gb258, 0, none⟩ = some (.int .i64 a1_0) ∧ w'.cell? ⟨gb258, 1, none⟩ = some (.int .i64 a1_1) ∧ w'.cell? ⟨gb258, 2, none⟩ = some (.int .i64 a1_2) ∧ w'.cell? ⟨gb258, 3, none⟩ = some (.int .i64 a1_3) ∧ w'.cell? ⟨gb258, 4, none⟩ = some (.string a1_4) ∧ w'.cell? ⟨gb258, 5, none⟩ = some (.string a1_5) ∧ w'.cell? ⟨gb267, 0, none⟩ = some (.int .i64 t263) ∧ w'.cell? ⟨gb267, 1, none⟩ = some (.int .i64 t264) ∧ w'.cell? ⟨gb267, 2, none⟩ = some (.int .i64 t265) ∧ w'.cell? ⟨gb267, 3, none⟩ = some (.int .i64 t266)) ∧ (w'.heap[gb257]? = some (.cells #[.int .i64 a0_0, .int .i64 a0_1, .int .i64 a0_2, .int .i64 a0_3, .string a0_4, .string a0_5] 36 (0, 0))) ∧ (w'.heap[gb258]? = some (.cells #[.int .i64 a1_0, .int .i64 a1_1, .int .i64 a1_2, .int .i64 a1_3, .string a1_4, .string a1_5] 36 (0, 0))) ∧ (w'.heap[gb259]? = some (.cells #[.int .i64 0, .int .i64 0, .int .i64 0, .int .i64 0, .string (⟨#[]⟩ : ByteArray), .string (⟨#[]⟩ : ByteArray)] 36 (0, 0))) ∧ (w'.heap[gb260]? = some (.cells #[.int .i64 0, .int .i64 0, .int .i64 0, .int .i64 0] 34 (0, 0))) ∧ (w'.heap[gb267]? = some (.cells #[.int .i64 t263, .int .i64 t264, .int .i64 t265, .int .i64 t266] 34 (0, 0))) ∧ (w'.heap[s_]? = some (.cells #[.int .i64 0, .int .i64 0, .int .i64 0, .int .i64 0, .string (⟨#[]⟩ : ByteArray), .string (⟨#[]⟩ : ByteArray)] 36 (0, 0))) ∧ (w.heap.size ≤ s_) ∧ (w.heap.size ≤ s_) ∧ (gb257 ≠ s_) ∧ (s_ ≠ gb257) ∧ (gb258 ≠ s_) ∧ (s_ ≠ gb258) ∧ (gb259 ≠ s_) ∧ (s_ ≠ gb259) ∧ (gb260 ≠ s_) ∧ (s_ ≠ gb260) ∧ (gb267 ≠ s_) ∧ (s_ ≠ gb267) ∧ (Below w.heap.size w w')) ?_ ?_
     rotate_left
     ·intro hCont
      refine two_ (i := 4) (j := 12) (Ni := some 38) (Nj := some 8) #[true, true, true, true, true, true, false, true, true, true, true, false, false, false] #[true, true, true, true, false, true, false, true, true, true, true, false, true, false] rfl rfl rfl rfl (two_of HT_.out (by kernel_rfl)) (by decide) (by decide) (fun K hK => ?_) (fun K hK => ?_)
      ·skip
       refine goes_ Tryd.func45 (by kernel_rfl) rfl #[.agg #[.int .i64 a0_0, .int .i64 a0_1, .int .i64 a0_2, .int .i64 a0_3], .agg #[.int .i64 a1_0, .int .i64 a1_1, .int .i64 a1_2, .int .i64 a1_3], .int .i64 1] (by rfl) rfl rfl (by (try simp only [List.map_toArray, List.map_cons, List.map_nil]); first | done | rfl | (simp only [List.length_drop, List.length_take]; rfl)) ?_
       with_reducible refine (weld_sum.calls a0_0 a0_1 a0_2 a0_3 a1_0 a1_1 a1_2 a1_3 1 t268 t269 t270 t271 _ A45.out).mono ?_
       rintro e w64 ⟨rfl, hb⟩
       refine ⟨_, rfl, ?_⟩
       have n0_ := Aside0.mk (blk_below (pl BK257.out) hb)
       have n1_ := Aside0.mk (blk_below (pl BK258.out) hb)
       have n2_ := Aside0.mk (blk_below (pl BK259.out) hb)
       have n3_ := Aside0.mk (blk_below (pl BK260.out) hb)
       have n4_ := Aside0.mk (blk_below (pl BK267.out) hb)
       have n5_ := Aside0.mk (below_step (by repeat (first | (with_reducible first | exact HB.out | apply below_alloc | apply pw_below_drewN | apply below_drew1 | refine below_set ?_ GE257.out | refine below_set ?_ GE258.out | refine below_set ?_ GE259.out | refine below_set ?_ GE260.out | refine below_set ?_ GE267.out) | exact HB.out)) hb)
       clear BK257; clear BK258; clear BK259; clear BK260; clear BK267; clear HB; have BK257 := n0_; have BK258 := n1_; have BK259 := n2_; have BK260 := n3_; have BK267 := n4_; have HB := n5_; clear n0_ n1_ n2_ n3_ n4_ n5_
       (try clear hb)
       (try clear hb2)
       (try clear hk)
       (try clear hi)
       refine hK.out _ _ ⟨(blk_cell BK257.out 0).trans rfl, (blk_cell BK257.out 1).trans rfl, (blk_cell BK257.out 2).trans rfl, (blk_cell BK257.out 3).trans rfl, (blk_cell BK257.out 4).trans rfl, (blk_cell BK257.out 5).trans rfl, (blk_cell BK258.out 0).trans rfl, (blk_cell BK258.out 1).trans rfl, (blk_cell BK258.out 2).trans rfl, (blk_cell BK258.out 3).trans rfl, (blk_cell BK258.out 4).trans rfl, (blk_cell BK258.out 5).trans rfl, (blk_cell BK267.out 0).trans rfl, (blk_cell BK267.out 1).trans rfl, (blk_cell BK267.out 2).trans rfl, (blk_cell BK267.out 3).trans rfl⟩ (fun hHeld => ?_)
       clear hK K
       refine norm_ (a' := ?_) ?_ ?_
       rotate_left
       ·show Act.put _ (some 38) _ = _
        simp only [Act.put, List.setIfInBounds_toArray, List.set_cons_zero, List.set_cons_succ, i64_w, i32_w]
        rfl
       refine two_ (i := 6) (j := 12) (Ni := some 40) (Nj := some 8) #[true, true, true, true, true, true, true, true, true, true, true, false, false, false] #[true, true, true, true, true, true, false, true, true, true, true, false, true, false] rfl rfl rfl rfl (two_of HT_.out (by kernel_rfl)) (by decide) (by decide) (fun K hK => ?_) (fun K hK => ?_)
       ·skip
        refine goes_ Tryd.func45 (by kernel_rfl) rfl #[.agg #[.int .i64 t268, .int .i64 t269, .int .i64 t270, .int .i64 t271], .agg #[.int .i64 t263, .int .i64 t264, .int .i64 t265, .int .i64 t266], .int .i64 (-1)] (by rfl) rfl rfl (by (try simp only [List.map_toArray, List.map_cons, List.map_nil]); first | done | rfl | (simp only [List.length_drop, List.length_take]; rfl)) ?_
        with_reducible refine (weld_sum.calls t268 t269 t270 t271 t263 t264 t265 t266 (-1) t272 t273 t274 t275 _ A46.out).mono ?_
        rintro e w65 ⟨rfl, hb⟩
        refine ⟨_, rfl, ?_⟩
        have n0_ := Aside0.mk (blk_below (pl BK257.out) hb)
        have n1_ := Aside0.mk (blk_below (pl BK258.out) hb)
        have n2_ := Aside0.mk (blk_below (pl BK259.out) hb)
        have n3_ := Aside0.mk (blk_below (pl BK260.out) hb)
        have n4_ := Aside0.mk (blk_below (pl BK267.out) hb)
        have n5_ := Aside0.mk (below_step (by repeat (first | (with_reducible first | exact HB.out | apply below_alloc | apply pw_below_drewN | apply below_drew1 | refine below_set ?_ GE257.out | refine below_set ?_ GE258.out | refine below_set ?_ GE259.out | refine below_set ?_ GE260.out | refine below_set ?_ GE267.out) | exact HB.out)) hb)
        clear BK257; clear BK258; clear BK259; clear BK260; clear BK267; clear HB; have BK257 := n0_; have BK258 := n1_; have BK259 := n2_; have BK260 := n3_; have BK267 := n4_; have HB := n5_; clear n0_ n1_ n2_ n3_ n4_ n5_
        (try clear hb)
        (try clear hb2)
        (try clear hk)
        (try clear hi)
        refine hK.out _ _ ⟨(blk_cell BK257.out 0).trans rfl, (blk_cell BK257.out 1).trans rfl, (blk_cell BK257.out 2).trans rfl, (blk_cell BK257.out 3).trans rfl, (blk_cell BK257.out 4).trans rfl, (blk_cell BK257.out 5).trans rfl, (blk_cell BK258.out 0).trans rfl, (blk_cell BK258.out 1).trans rfl, (blk_cell BK258.out 2).trans rfl, (blk_cell BK258.out 3).trans rfl, (blk_cell BK258.out 4).trans rfl, (blk_cell BK258.out 5).trans rfl, (blk_cell BK267.out 0).trans rfl, (blk_cell BK267.out 1).trans rfl, (blk_cell BK267.out 2).trans rfl, (blk_cell BK267.out 3).trans rfl⟩ (fun hHeld => ?_)
        clear hK K
        refine norm_ (a' := ?_) ?_ ?_
        rotate_left
        ·show Act.put _ (some 40) _ = _
         simp only [Act.put, List.setIfInBounds_toArray, List.set_cons_zero, List.set_cons_succ, i64_w, i32_w]
         rfl
        refine pure_ (i := 11) (N := some 45) (v := ?_) (a' := ?_) #[true, true, true, true, true, true, true, true, true, true, true, true, false, false] rfl rfl (any_of HT_.out (by kernel_rfl)) (fun _ _ _ h => h) (Or.inl ⟨by rfl, ?_⟩) ?_ ?_
        rotate_left
        ·intro w'
         go_simp
         with_reducible rfl
        rotate_left
        ·simp only [Act.put, List.setIfInBounds_toArray, List.set_cons_zero, List.set_cons_succ, i64_w, i32_w]
         rfl
        refine one_ (i := 12) (N := some 8) #[true, true, true, true, true, true, true, true, true, true, true, true, true, false] rfl rfl (one_of HT_.out (by kernel_rfl)) (by decide) (fun K hK => ?_)
        refine box_step ?hg (N := 8) ?hd (cs := #[.int .i64 0, .int .i64 0, .int .i64 0, .int .i64 0, .string (⟨#[]⟩ : ByteArray), .string (⟨#[]⟩ : ByteArray)]) (t := 36) ?hr ?_; (case hd => rfl); (case hg => rfl); (case hr => first | (go_simp; done) | (go_simp; rfl))
        intro gb276 hg w66 hbox hb
        have n0_ := Aside0.mk (blk_below (pl BK257.out) hb)
        have n1_ := Aside0.mk (blk_below (pl BK258.out) hb)
        have n2_ := Aside0.mk (blk_below (pl BK259.out) hb)
        have n3_ := Aside0.mk (blk_below (pl BK260.out) hb)
        have n4_ := Aside0.mk (blk_below (pl BK267.out) hb)
        have n5_ := Aside0.mk (below_step (by repeat (first | (with_reducible first | exact HB.out | apply below_alloc | apply pw_below_drewN | apply below_drew1 | refine below_set ?_ GE257.out | refine below_set ?_ GE258.out | refine below_set ?_ GE259.out | refine below_set ?_ GE260.out | refine below_set ?_ GE267.out) | exact HB.out)) hb)
        have n6_ := Aside0.mk (hbox)
        have n7_ := Aside0.mk ((by rw [hg]; exact (below_size (by repeat (first | (with_reducible first | exact HB.out | apply below_alloc | apply pw_below_drewN | apply below_drew1 | refine below_set ?_ GE257.out | refine below_set ?_ GE258.out | refine below_set ?_ GE259.out | refine below_set ?_ GE260.out | refine below_set ?_ GE267.out) | exact HB.out))) : w.heap.size ≤ gb276))
        have n8_ := Aside0.mk ((by rw [hg]; exact (below_size (by repeat (first | (with_reducible first | exact HB.out | apply below_alloc | apply pw_below_drewN | apply below_drew1 | refine below_set ?_ GE257.out | refine below_set ?_ GE258.out | refine below_set ?_ GE259.out | refine below_set ?_ GE260.out | refine below_set ?_ GE267.out) | exact HB.out))) : w.heap.size ≤ gb276))
        have n9_ := Aside0.mk ((by rw [hg]; exact Nat.ne_of_lt (blk_lt (pl BK257.out)) : gb257 ≠ gb276))
        have n10_ := Aside0.mk ((by rw [hg]; exact Nat.ne_of_gt (blk_lt (pl BK257.out)) : gb276 ≠ gb257))
        have n11_ := Aside0.mk ((by rw [hg]; exact Nat.ne_of_lt (blk_lt (pl BK258.out)) : gb258 ≠ gb276))
        have n12_ := Aside0.mk ((by rw [hg]; exact Nat.ne_of_gt (blk_lt (pl BK258.out)) : gb276 ≠ gb258))
        have n13_ := Aside0.mk ((by rw [hg]; exact Nat.ne_of_lt (blk_lt (pl BK259.out)) : gb259 ≠ gb276))
        have n14_ := Aside0.mk ((by rw [hg]; exact Nat.ne_of_gt (blk_lt (pl BK259.out)) : gb276 ≠ gb259))
        have n15_ := Aside0.mk ((by rw [hg]; exact Nat.ne_of_lt (blk_lt (pl BK260.out)) : gb260 ≠ gb276))
        have n16_ := Aside0.mk ((by rw [hg]; exact Nat.ne_of_gt (blk_lt (pl BK260.out)) : gb276 ≠ gb260))
        have n17_ := Aside0.mk ((by rw [hg]; exact Nat.ne_of_lt (blk_lt (pl BK267.out)) : gb267 ≠ gb276))
        have n18_ := Aside0.mk ((by rw [hg]; exact Nat.ne_of_gt (blk_lt (pl BK267.out)) : gb276 ≠ gb267))
        clear BK257; clear BK258; clear BK259; clear BK260; clear BK267; clear HB; have BK257 := n0_; have BK258 := n1_; have BK259 := n2_; have BK260 := n3_; have BK267 := n4_; have HB := n5_; have BK276 := n6_; have GW276 := n7_; have GE276 := n8_; have NB257_276 := n9_; have NB276_257 := n10_; have NB258_276 := n11_; have NB276_258 := n12_; have NB259_276 := n13_; have NB276_259 := n14_; have NB260_276 := n15_; have NB276_260 := n16_; have NB267_276 := n17_; have NB276_267 := n18_; clear n0_ n1_ n2_ n3_ n4_ n5_ n6_ n7_ n8_ n9_ n10_ n11_ n12_ n13_ n14_ n15_ n16_ n17_ n18_; clear hb hbox hg
        refine hK.out _ _ ⟨(blk_cell BK257.out 0).trans rfl, (blk_cell BK257.out 1).trans rfl, (blk_cell BK257.out 2).trans rfl, (blk_cell BK257.out 3).trans rfl, (blk_cell BK257.out 4).trans rfl, (blk_cell BK257.out 5).trans rfl, (blk_cell BK258.out 0).trans rfl, (blk_cell BK258.out 1).trans rfl, (blk_cell BK258.out 2).trans rfl, (blk_cell BK258.out 3).trans rfl, (blk_cell BK258.out 4).trans rfl, (blk_cell BK258.out 5).trans rfl, (blk_cell BK267.out 0).trans rfl, (blk_cell BK267.out 1).trans rfl, (blk_cell BK267.out 2).trans rfl, (blk_cell BK267.out 3).trans rfl⟩ (fun hHeld => ?_)
        clear hK K
        refine norm_ (a' := ?_) ?_ ?_
        rotate_left
        ·show Act.put _ (some 8) _ = _
         simp only [Act.put, List.setIfInBounds_toArray, List.set_cons_zero, List.set_cons_succ, i64_w, i32_w]
         rfl
        exact norm_ (by simp only [putAll, Act.put, List.setIfInBounds_toArray, List.set_cons_zero, List.set_cons_succ]) (hCont (gb276) _ ⟨hHeld, (pl BK257.out), (pl BK258.out), (pl BK259.out), (pl BK260.out), (pl BK267.out), (pl BK276.out), GW276.out, GE276.out, NB257_276.out, NB276_257.out, NB258_276.out, NB276_258.out, NB259_276.out, NB276_259.out, NB260_276.out, NB276_260.out, NB267_276.out, NB276_267.out, (by repeat (first | (with_reducible first | exact HB.out | apply below_alloc | apply pw_below_drewN | apply below_drew1 | refine below_set ?_ GE257.out | refine below_set ?_ GE258.out | refine below_set ?_ GE259.out | refine below_set ?_ GE260.out | refine below_set ?_ GE267.out | refine below_set ?_ GE276.out) | exact HB.out))⟩)
       ·skip
        refine box_step ?hg (N := 8) ?hd (cs := #[.int .i64 0, .int .i64 0, .int .i64 0, .int .i64 0, .string (⟨#[]⟩ : ByteArray), .string (⟨#[]⟩ : ByteArray)]) (t := 36) ?hr ?_; (case hd => rfl); (case hg => rfl); (case hr => first | (go_simp; done) | (go_simp; rfl))
        intro gb276 hg w65 hbox hb
        have n0_ := Aside0.mk (blk_below (pl BK257.out) hb)
        have n1_ := Aside0.mk (blk_below (pl BK258.out) hb)
        have n2_ := Aside0.mk (blk_below (pl BK259.out) hb)
        have n3_ := Aside0.mk (blk_below (pl BK260.out) hb)
        have n4_ := Aside0.mk (blk_below (pl BK267.out) hb)
        have n5_ := Aside0.mk (below_step (by repeat (first | (with_reducible first | exact HB.out | apply below_alloc | apply pw_below_drewN | apply below_drew1 | refine below_set ?_ GE257.out | refine below_set ?_ GE258.out | refine below_set ?_ GE259.out | refine below_set ?_ GE260.out | refine below_set ?_ GE267.out) | exact HB.out)) hb)
        have n6_ := Aside0.mk (hbox)
        have n7_ := Aside0.mk ((by rw [hg]; exact (below_size (by repeat (first | (with_reducible first | exact HB.out | apply below_alloc | apply pw_below_drewN | apply below_drew1 | refine below_set ?_ GE257.out | refine below_set ?_ GE258.out | refine below_set ?_ GE259.out | refine below_set ?_ GE260.out | refine below_set ?_ GE267.out) | exact HB.out))) : w.heap.size ≤ gb276))
        have n8_ := Aside0.mk ((by rw [hg]; exact (below_size (by repeat (first | (with_reducible first | exact HB.out | apply below_alloc | apply pw_below_drewN | apply below_drew1 | refine below_set ?_ GE257.out | refine below_set ?_ GE258.out | refine below_set ?_ GE259.out | refine below_set ?_ GE260.out | refine below_set ?_ GE267.out) | exact HB.out))) : w.heap.size ≤ gb276))
        have n9_ := Aside0.mk ((by rw [hg]; exact Nat.ne_of_lt (blk_lt (pl BK257.out)) : gb257 ≠ gb276))
        have n10_ := Aside0.mk ((by rw [hg]; exact Nat.ne_of_gt (blk_lt (pl BK257.out)) : gb276 ≠ gb257))
        have n11_ := Aside0.mk ((by rw [hg]; exact Nat.ne_of_lt (blk_lt (pl BK258.out)) : gb258 ≠ gb276))
        have n12_ := Aside0.mk ((by rw [hg]; exact Nat.ne_of_gt (blk_lt (pl BK258.out)) : gb276 ≠ gb258))
        have n13_ := Aside0.mk ((by rw [hg]; exact Nat.ne_of_lt (blk_lt (pl BK259.out)) : gb259 ≠ gb276))
        have n14_ := Aside0.mk ((by rw [hg]; exact Nat.ne_of_gt (blk_lt (pl BK259.out)) : gb276 ≠ gb259))
        have n15_ := Aside0.mk ((by rw [hg]; exact Nat.ne_of_lt (blk_lt (pl BK260.out)) : gb260 ≠ gb276))
        have n16_ := Aside0.mk ((by rw [hg]; exact Nat.ne_of_gt (blk_lt (pl BK260.out)) : gb276 ≠ gb260))
        have n17_ := Aside0.mk ((by rw [hg]; exact Nat.ne_of_lt (blk_lt (pl BK267.out)) : gb267 ≠ gb276))
        have n18_ := Aside0.mk ((by rw [hg]; exact Nat.ne_of_gt (blk_lt (pl BK267.out)) : gb276 ≠ gb267))
        clear BK257; clear BK258; clear BK259; clear BK260; clear BK267; clear HB; have BK257 := n0_; have BK258 := n1_; have BK259 := n2_; have BK260 := n3_; have BK267 := n4_; have HB := n5_; have BK276 := n6_; have GW276 := n7_; have GE276 := n8_; have NB257_276 := n9_; have NB276_257 := n10_; have NB258_276 := n11_; have NB276_258 := n12_; have NB259_276 := n13_; have NB276_259 := n14_; have NB260_276 := n15_; have NB276_260 := n16_; have NB267_276 := n17_; have NB276_267 := n18_; clear n0_ n1_ n2_ n3_ n4_ n5_ n6_ n7_ n8_ n9_ n10_ n11_ n12_ n13_ n14_ n15_ n16_ n17_ n18_; clear hb hbox hg
        refine hK.out _ _ ⟨(blk_cell BK257.out 0).trans rfl, (blk_cell BK257.out 1).trans rfl, (blk_cell BK257.out 2).trans rfl, (blk_cell BK257.out 3).trans rfl, (blk_cell BK257.out 4).trans rfl, (blk_cell BK257.out 5).trans rfl, (blk_cell BK258.out 0).trans rfl, (blk_cell BK258.out 1).trans rfl, (blk_cell BK258.out 2).trans rfl, (blk_cell BK258.out 3).trans rfl, (blk_cell BK258.out 4).trans rfl, (blk_cell BK258.out 5).trans rfl, (blk_cell BK267.out 0).trans rfl, (blk_cell BK267.out 1).trans rfl, (blk_cell BK267.out 2).trans rfl, (blk_cell BK267.out 3).trans rfl⟩ (fun hHeld => ?_)
        clear hK K
        refine norm_ (a' := ?_) ?_ ?_
        rotate_left
        ·show Act.put _ (some 8) _ = _
         simp only [Act.put, List.setIfInBounds_toArray, List.set_cons_zero, List.set_cons_succ, i64_w, i32_w]
         rfl
        refine one_ (i := 6) (N := some 40) #[true, true, true, true, true, true, true, true, true, true, true, false, true, false] rfl rfl (one_of HT_.out (by kernel_rfl)) (by decide) (fun K hK => ?_)
        refine goes_ Tryd.func45 (by kernel_rfl) rfl #[.agg #[.int .i64 t268, .int .i64 t269, .int .i64 t270, .int .i64 t271], .agg #[.int .i64 t263, .int .i64 t264, .int .i64 t265, .int .i64 t266], .int .i64 (-1)] (by rfl) rfl rfl (by (try simp only [List.map_toArray, List.map_cons, List.map_nil]); first | done | rfl | (simp only [List.length_drop, List.length_take]; rfl)) ?_
        with_reducible refine (weld_sum.calls t268 t269 t270 t271 t263 t264 t265 t266 (-1) t272 t273 t274 t275 _ A46.out).mono ?_
        rintro e w66 ⟨rfl, hb⟩
        refine ⟨_, rfl, ?_⟩
        have n0_ := Aside0.mk (blk_below (pl BK257.out) hb)
        have n1_ := Aside0.mk (blk_below (pl BK258.out) hb)
        have n2_ := Aside0.mk (blk_below (pl BK259.out) hb)
        have n3_ := Aside0.mk (blk_below (pl BK260.out) hb)
        have n4_ := Aside0.mk (blk_below (pl BK267.out) hb)
        have n5_ := Aside0.mk (blk_below (pl BK276.out) hb)
        have n6_ := Aside0.mk (below_step (by repeat (first | (with_reducible first | exact HB.out | apply below_alloc | apply pw_below_drewN | apply below_drew1 | refine below_set ?_ GE257.out | refine below_set ?_ GE258.out | refine below_set ?_ GE259.out | refine below_set ?_ GE260.out | refine below_set ?_ GE267.out | refine below_set ?_ GE276.out) | exact HB.out)) hb)
        clear BK257; clear BK258; clear BK259; clear BK260; clear BK267; clear BK276; clear HB; have BK257 := n0_; have BK258 := n1_; have BK259 := n2_; have BK260 := n3_; have BK267 := n4_; have BK276 := n5_; have HB := n6_; clear n0_ n1_ n2_ n3_ n4_ n5_ n6_
        (try clear hb)
        (try clear hb2)
        (try clear hk)
        (try clear hi)
        refine hK.out _ _ ⟨(blk_cell BK257.out 0).trans rfl, (blk_cell BK257.out 1).trans rfl, (blk_cell BK257.out 2).trans rfl, (blk_cell BK257.out 3).trans rfl, (blk_cell BK257.out 4).trans rfl, (blk_cell BK257.out 5).trans rfl, (blk_cell BK258.out 0).trans rfl, (blk_cell BK258.out 1).trans rfl, (blk_cell BK258.out 2).trans rfl, (blk_cell BK258.out 3).trans rfl, (blk_cell BK258.out 4).trans rfl, (blk_cell BK258.out 5).trans rfl, (blk_cell BK267.out 0).trans rfl, (blk_cell BK267.out 1).trans rfl, (blk_cell BK267.out 2).trans rfl, (blk_cell BK267.out 3).trans rfl⟩ (fun hHeld => ?_)
        clear hK K
        refine norm_ (a' := ?_) ?_ ?_
        rotate_left
        ·show Act.put _ (some 40) _ = _
         simp only [Act.put, List.setIfInBounds_toArray, List.set_cons_zero, List.set_cons_succ, i64_w, i32_w]
         rfl
        refine pure_ (i := 11) (N := some 45) (v := ?_) (a' := ?_) #[true, true, true, true, true, true, true, true, true, true, true, true, true, false] rfl rfl (any_of HT_.out (by kernel_rfl)) (fun _ _ _ h => h) (Or.inl ⟨by rfl, ?_⟩) ?_ ?_
        rotate_left
        ·intro w'
         go_simp
         with_reducible rfl
        rotate_left
        ·simp only [Act.put, List.setIfInBounds_toArray, List.set_cons_zero, List.set_cons_succ, i64_w, i32_w]
         rfl
        exact norm_ (by simp only [putAll, Act.put, List.setIfInBounds_toArray, List.set_cons_zero, List.set_cons_succ]) (hCont (gb276) _ ⟨hHeld, (pl BK257.out), (pl BK258.out), (pl BK259.out), (pl BK260.out), (pl BK267.out), (pl BK276.out), GW276.out, GE276.out, NB257_276.out, NB276_257.out, NB258_276.out, NB276_258.out, NB259_276.out, NB276_259.out, NB260_276.out, NB276_260.out, NB267_276.out, NB276_267.out, (by repeat (first | (with_reducible first | exact HB.out | apply below_alloc | apply pw_below_drewN | apply below_drew1 | refine below_set ?_ GE257.out | refine below_set ?_ GE258.out | refine below_set ?_ GE259.out | refine below_set ?_ GE260.out | refine below_set ?_ GE267.out | refine below_set ?_ GE276.out) | exact HB.out))⟩)
      ·skip
       refine box_step ?hg (N := 8) ?hd (cs := #[.int .i64 0, .int .i64 0, .int .i64 0, .int .i64 0, .string (⟨#[]⟩ : ByteArray), .string (⟨#[]⟩ : ByteArray)]) (t := 36) ?hr ?_; (case hd => rfl); (case hg => rfl); (case hr => first | (go_simp; done) | (go_simp; rfl))
       intro gb276 hg w64 hbox hb
       have n0_ := Aside0.mk (blk_below (pl BK257.out) hb)
       have n1_ := Aside0.mk (blk_below (pl BK258.out) hb)
       have n2_ := Aside0.mk (blk_below (pl BK259.out) hb)
       have n3_ := Aside0.mk (blk_below (pl BK260.out) hb)
       have n4_ := Aside0.mk (blk_below (pl BK267.out) hb)
       have n5_ := Aside0.mk (below_step (by repeat (first | (with_reducible first | exact HB.out | apply below_alloc | apply pw_below_drewN | apply below_drew1 | refine below_set ?_ GE257.out | refine below_set ?_ GE258.out | refine below_set ?_ GE259.out | refine below_set ?_ GE260.out | refine below_set ?_ GE267.out) | exact HB.out)) hb)
       have n6_ := Aside0.mk (hbox)
       have n7_ := Aside0.mk ((by rw [hg]; exact (below_size (by repeat (first | (with_reducible first | exact HB.out | apply below_alloc | apply pw_below_drewN | apply below_drew1 | refine below_set ?_ GE257.out | refine below_set ?_ GE258.out | refine below_set ?_ GE259.out | refine below_set ?_ GE260.out | refine below_set ?_ GE267.out) | exact HB.out))) : w.heap.size ≤ gb276))
       have n8_ := Aside0.mk ((by rw [hg]; exact (below_size (by repeat (first | (with_reducible first | exact HB.out | apply below_alloc | apply pw_below_drewN | apply below_drew1 | refine below_set ?_ GE257.out | refine below_set ?_ GE258.out | refine below_set ?_ GE259.out | refine below_set ?_ GE260.out | refine below_set ?_ GE267.out) | exact HB.out))) : w.heap.size ≤ gb276))
       have n9_ := Aside0.mk ((by rw [hg]; exact Nat.ne_of_lt (blk_lt (pl BK257.out)) : gb257 ≠ gb276))
       have n10_ := Aside0.mk ((by rw [hg]; exact Nat.ne_of_gt (blk_lt (pl BK257.out)) : gb276 ≠ gb257))
       have n11_ := Aside0.mk ((by rw [hg]; exact Nat.ne_of_lt (blk_lt (pl BK258.out)) : gb258 ≠ gb276))
       have n12_ := Aside0.mk ((by rw [hg]; exact Nat.ne_of_gt (blk_lt (pl BK258.out)) : gb276 ≠ gb258))
       have n13_ := Aside0.mk ((by rw [hg]; exact Nat.ne_of_lt (blk_lt (pl BK259.out)) : gb259 ≠ gb276))
       have n14_ := Aside0.mk ((by rw [hg]; exact Nat.ne_of_gt (blk_lt (pl BK259.out)) : gb276 ≠ gb259))
       have n15_ := Aside0.mk ((by rw [hg]; exact Nat.ne_of_lt (blk_lt (pl BK260.out)) : gb260 ≠ gb276))
       have n16_ := Aside0.mk ((by rw [hg]; exact Nat.ne_of_gt (blk_lt (pl BK260.out)) : gb276 ≠ gb260))
       have n17_ := Aside0.mk ((by rw [hg]; exact Nat.ne_of_lt (blk_lt (pl BK267.out)) : gb267 ≠ gb276))
       have n18_ := Aside0.mk ((by rw [hg]; exact Nat.ne_of_gt (blk_lt (pl BK267.out)) : gb276 ≠ gb267))
       clear BK257; clear BK258; clear BK259; clear BK260; clear BK267; clear HB; have BK257 := n0_; have BK258 := n1_; have BK259 := n2_; have BK260 := n3_; have BK267 := n4_; have HB := n5_; have BK276 := n6_; have GW276 := n7_; have GE276 := n8_; have NB257_276 := n9_; have NB276_257 := n10_; have NB258_276 := n11_; have NB276_258 := n12_; have NB259_276 := n13_; have NB276_259 := n14_; have NB260_276 := n15_; have NB276_260 := n16_; have NB267_276 := n17_; have NB276_267 := n18_; clear n0_ n1_ n2_ n3_ n4_ n5_ n6_ n7_ n8_ n9_ n10_ n11_ n12_ n13_ n14_ n15_ n16_ n17_ n18_; clear hb hbox hg
       refine hK.out _ _ ⟨(blk_cell BK257.out 0).trans rfl, (blk_cell BK257.out 1).trans rfl, (blk_cell BK257.out 2).trans rfl, (blk_cell BK257.out 3).trans rfl, (blk_cell BK257.out 4).trans rfl, (blk_cell BK257.out 5).trans rfl, (blk_cell BK258.out 0).trans rfl, (blk_cell BK258.out 1).trans rfl, (blk_cell BK258.out 2).trans rfl, (blk_cell BK258.out 3).trans rfl, (blk_cell BK258.out 4).trans rfl, (blk_cell BK258.out 5).trans rfl, (blk_cell BK267.out 0).trans rfl, (blk_cell BK267.out 1).trans rfl, (blk_cell BK267.out 2).trans rfl, (blk_cell BK267.out 3).trans rfl⟩ (fun hHeld => ?_)
       clear hK K
       refine norm_ (a' := ?_) ?_ ?_
       rotate_left
       ·show Act.put _ (some 8) _ = _
        simp only [Act.put, List.setIfInBounds_toArray, List.set_cons_zero, List.set_cons_succ, i64_w, i32_w]
        rfl
       refine one_ (i := 4) (N := some 38) #[true, true, true, true, true, true, false, true, true, true, true, false, true, false] rfl rfl (one_of HT_.out (by kernel_rfl)) (by decide) (fun K hK => ?_)
       refine goes_ Tryd.func45 (by kernel_rfl) rfl #[.agg #[.int .i64 a0_0, .int .i64 a0_1, .int .i64 a0_2, .int .i64 a0_3], .agg #[.int .i64 a1_0, .int .i64 a1_1, .int .i64 a1_2, .int .i64 a1_3], .int .i64 1] (by rfl) rfl rfl (by (try simp only [List.map_toArray, List.map_cons, List.map_nil]); first | done | rfl | (simp only [List.length_drop, List.length_take]; rfl)) ?_
       with_reducible refine (weld_sum.calls a0_0 a0_1 a0_2 a0_3 a1_0 a1_1 a1_2 a1_3 1 t268 t269 t270 t271 _ A45.out).mono ?_
       rintro e w65 ⟨rfl, hb⟩
       refine ⟨_, rfl, ?_⟩
       have n0_ := Aside0.mk (blk_below (pl BK257.out) hb)
       have n1_ := Aside0.mk (blk_below (pl BK258.out) hb)
       have n2_ := Aside0.mk (blk_below (pl BK259.out) hb)
       have n3_ := Aside0.mk (blk_below (pl BK260.out) hb)
       have n4_ := Aside0.mk (blk_below (pl BK267.out) hb)
       have n5_ := Aside0.mk (blk_below (pl BK276.out) hb)
       have n6_ := Aside0.mk (below_step (by repeat (first | (with_reducible first | exact HB.out | apply below_alloc | apply pw_below_drewN | apply below_drew1 | refine below_set ?_ GE257.out | refine below_set ?_ GE258.out | refine below_set ?_ GE259.out | refine below_set ?_ GE260.out | refine below_set ?_ GE267.out | refine below_set ?_ GE276.out) | exact HB.out)) hb)
       clear BK257; clear BK258; clear BK259; clear BK260; clear BK267; clear BK276; clear HB; have BK257 := n0_; have BK258 := n1_; have BK259 := n2_; have BK260 := n3_; have BK267 := n4_; have BK276 := n5_; have HB := n6_; clear n0_ n1_ n2_ n3_ n4_ n5_ n6_
       (try clear hb)
       (try clear hb2)
       (try clear hk)
       (try clear hi)
       refine hK.out _ _ ⟨(blk_cell BK257.out 0).trans rfl, (blk_cell BK257.out 1).trans rfl, (blk_cell BK257.out 2).trans rfl, (blk_cell BK257.out 3).trans rfl, (blk_cell BK257.out 4).trans rfl, (blk_cell BK257.out 5).trans rfl, (blk_cell BK258.out 0).trans rfl, (blk_cell BK258.out 1).trans rfl, (blk_cell BK258.out 2).trans rfl, (blk_cell BK258.out 3).trans rfl, (blk_cell BK258.out 4).trans rfl, (blk_cell BK258.out 5).trans rfl, (blk_cell BK267.out 0).trans rfl, (blk_cell BK267.out 1).trans rfl, (blk_cell BK267.out 2).trans rfl, (blk_cell BK267.out 3).trans rfl⟩ (fun hHeld => ?_)
       clear hK K
       refine norm_ (a' := ?_) ?_ ?_
       rotate_left
       ·show Act.put _ (some 38) _ = _
        simp only [Act.put, List.setIfInBounds_toArray, List.set_cons_zero, List.set_cons_succ, i64_w, i32_w]
        rfl
       refine one_ (i := 6) (N := some 40) #[true, true, true, true, true, true, true, true, true, true, true, false, true, false] rfl rfl (one_of HT_.out (by kernel_rfl)) (by decide) (fun K hK => ?_)
       refine goes_ Tryd.func45 (by kernel_rfl) rfl #[.agg #[.int .i64 t268, .int .i64 t269, .int .i64 t270, .int .i64 t271], .agg #[.int .i64 t263, .int .i64 t264, .int .i64 t265, .int .i64 t266], .int .i64 (-1)] (by rfl) rfl rfl (by (try simp only [List.map_toArray, List.map_cons, List.map_nil]); first | done | rfl | (simp only [List.length_drop, List.length_take]; rfl)) ?_
       with_reducible refine (weld_sum.calls t268 t269 t270 t271 t263 t264 t265 t266 (-1) t272 t273 t274 t275 _ A46.out).mono ?_
       rintro e w66 ⟨rfl, hb⟩
       refine ⟨_, rfl, ?_⟩
       have n0_ := Aside0.mk (blk_below (pl BK257.out) hb)
       have n1_ := Aside0.mk (blk_below (pl BK258.out) hb)
       have n2_ := Aside0.mk (blk_below (pl BK259.out) hb)
       have n3_ := Aside0.mk (blk_below (pl BK260.out) hb)
       have n4_ := Aside0.mk (blk_below (pl BK267.out) hb)
       have n5_ := Aside0.mk (blk_below (pl BK276.out) hb)
       have n6_ := Aside0.mk (below_step (by repeat (first | (with_reducible first | exact HB.out | apply below_alloc | apply pw_below_drewN | apply below_drew1 | refine below_set ?_ GE257.out | refine below_set ?_ GE258.out | refine below_set ?_ GE259.out | refine below_set ?_ GE260.out | refine below_set ?_ GE267.out | refine below_set ?_ GE276.out) | exact HB.out)) hb)
       clear BK257; clear BK258; clear BK259; clear BK260; clear BK267; clear BK276; clear HB; have BK257 := n0_; have BK258 := n1_; have BK259 := n2_; have BK260 := n3_; have BK267 := n4_; have BK276 := n5_; have HB := n6_; clear n0_ n1_ n2_ n3_ n4_ n5_ n6_
       (try clear hb)
       (try clear hb2)
       (try clear hk)
       (try clear hi)
       refine hK.out _ _ ⟨(blk_cell BK257.out 0).trans rfl, (blk_cell BK257.out 1).trans rfl, (blk_cell BK257.out 2).trans rfl, (blk_cell BK257.out 3).trans rfl, (blk_cell BK257.out 4).trans rfl, (blk_cell BK257.out 5).trans rfl, (blk_cell BK258.out 0).trans rfl, (blk_cell BK258.out 1).trans rfl, (blk_cell BK258.out 2).trans rfl, (blk_cell BK258.out 3).trans rfl, (blk_cell BK258.out 4).trans rfl, (blk_cell BK258.out 5).trans rfl, (blk_cell BK267.out 0).trans rfl, (blk_cell BK267.out 1).trans rfl, (blk_cell BK267.out 2).trans rfl, (blk_cell BK267.out 3).trans rfl⟩ (fun hHeld => ?_)
       clear hK K
       refine norm_ (a' := ?_) ?_ ?_
       rotate_left
       ·show Act.put _ (some 40) _ = _
        simp only [Act.put, List.setIfInBounds_toArray, List.set_cons_zero, List.set_cons_succ, i64_w, i32_w]
        rfl
       refine pure_ (i := 11) (N := some 45) (v := ?_) (a' := ?_) #[true, true, true, true, true, true, true, true, true, true, true, true, true, false] rfl rfl (any_of HT_.out (by kernel_rfl)) (fun _ _ _ h => h) (Or.inl ⟨by rfl, ?_⟩) ?_ ?_
       rotate_left
       ·intro w'
        go_simp
        with_reducible rfl
       rotate_left
       ·simp only [Act.put, List.setIfInBounds_toArray, List.set_cons_zero, List.set_cons_succ, i64_w, i32_w]
        rfl
       exact norm_ (by simp only [putAll, Act.put, List.setIfInBounds_toArray, List.set_cons_zero, List.set_cons_succ]) (hCont (gb276) _ ⟨hHeld, (pl BK257.out), (pl BK258.out), (pl BK259.out), (pl BK260.out), (pl BK267.out), (pl BK276.out), GW276.out, GE276.out, NB257_276.out, NB276_257.out, NB258_276.out, NB276_258.out, NB259_276.out, NB276_259.out, NB260_276.out, NB276_260.out, NB267_276.out, NB276_267.out, (by repeat (first | (with_reducible first | exact HB.out | apply below_alloc | apply pw_below_drewN | apply below_drew1 | refine below_set ?_ GE257.out | refine below_set ?_ GE258.out | refine below_set ?_ GE259.out | refine below_set ?_ GE260.out | refine below_set ?_ GE267.out | refine below_set ?_ GE276.out) | exact HB.out))⟩)
     rintro gb276 w67 ⟨hS_, h0_, h1_, h2_, h3_, h4_, h5_, h6_, h7_, h8_, h9_, h10_, h11_, h12_, h13_, h14_, h15_, h16_, h17_, h18_⟩
     have n0_ : Aside0 (w67.heap[gb257]? = some (.cells #[.int .i64 a0_0, .int .i64 a0_1, .int .i64 a0_2, .int .i64 a0_3, .string a0_4, .string a0_5] 36 (0, 0))) := ⟨h0_⟩
     have n1_ : Aside0 (w67.heap[gb258]? = some (.cells #[.int .i64 a1_0, .int .i64 a1_1, .int .i64 a1_2, .int .i64 a1_3, .string a1_4, .string a1_5] 36 (0, 0))) := ⟨h1_⟩
     have n2_ : Aside0 (w67.heap[gb259]? = some (.cells #[.int .i64 0, .int .i64 0, .int .i64 0, .int .i64 0, .string (⟨#[]⟩ : ByteArray), .string (⟨#[]⟩ : ByteArray)] 36 (0, 0))) := ⟨h2_⟩
     have n3_ : Aside0 (w67.heap[gb260]? = some (.cells #[.int .i64 0, .int .i64 0, .int .i64 0, .int .i64 0] 34 (0, 0))) := ⟨h3_⟩
     have n4_ : Aside0 (w67.heap[gb267]? = some (.cells #[.int .i64 t263, .int .i64 t264, .int .i64 t265, .int .i64 t266] 34 (0, 0))) := ⟨h4_⟩
     have n5_ : Aside0 (w67.heap[gb276]? = some (.cells #[.int .i64 0, .int .i64 0, .int .i64 0, .int .i64 0, .string (⟨#[]⟩ : ByteArray), .string (⟨#[]⟩ : ByteArray)] 36 (0, 0))) := ⟨h5_⟩
     have n6_ : Aside0 (w.heap.size ≤ gb276) := ⟨h6_⟩
     have n7_ : Aside0 (w.heap.size ≤ gb276) := ⟨h7_⟩
     have n8_ : Aside0 (gb257 ≠ gb276) := ⟨h8_⟩
     have n9_ : Aside0 (gb276 ≠ gb257) := ⟨h9_⟩
     have n10_ : Aside0 (gb258 ≠ gb276) := ⟨h10_⟩
     have n11_ : Aside0 (gb276 ≠ gb258) := ⟨h11_⟩
     have n12_ : Aside0 (gb259 ≠ gb276) := ⟨h12_⟩
     have n13_ : Aside0 (gb276 ≠ gb259) := ⟨h13_⟩
     have n14_ : Aside0 (gb260 ≠ gb276) := ⟨h14_⟩
     have n15_ : Aside0 (gb276 ≠ gb260) := ⟨h15_⟩
     have n16_ : Aside0 (gb267 ≠ gb276) := ⟨h16_⟩
     have n17_ : Aside0 (gb276 ≠ gb267) := ⟨h17_⟩
     have n18_ : Aside0 (Below w.heap.size w w67) := ⟨h18_⟩
     clear BK257; clear BK258; clear BK259; clear BK260; clear BK267; clear HB; clear h0_ h1_ h2_ h3_ h4_ h5_ h6_ h7_ h8_ h9_ h10_ h11_ h12_ h13_ h14_ h15_ h16_ h17_ h18_; have BK257 := n0_; have BK258 := n1_; have BK259 := n2_; have BK260 := n3_; have BK267 := n4_; have BK276 := n5_; have GW276 := n6_; have GE276 := n7_; have NB257_276 := n8_; have NB276_257 := n9_; have NB258_276 := n10_; have NB276_258 := n11_; have NB259_276 := n12_; have NB276_259 := n13_; have NB260_276 := n14_; have NB276_260 := n15_; have NB267_276 := n16_; have NB276_267 := n17_; have HB := n18_; clear n0_ n1_ n2_ n3_ n4_ n5_ n6_ n7_ n8_ n9_ n10_ n11_ n12_ n13_ n14_ n15_ n16_ n17_ n18_
     have hHeld : w67.cell? ⟨gb257, 0, none⟩ = some (.int .i64 a0_0) ∧ w67.cell? ⟨gb257, 1, none⟩ = some (.int .i64 a0_1) ∧ w67.cell? ⟨gb257, 2, none⟩ = some (.int .i64 a0_2) ∧ w67.cell? ⟨gb257, 3, none⟩ = some (.int .i64 a0_3) ∧ w67.cell? ⟨gb257, 4, none⟩ = some (.string a0_4) ∧ w67.cell? ⟨gb257, 5, none⟩ = some (.string a0_5) ∧ w67.cell? ⟨gb258, 0, none⟩ = some (.int .i64 a1_0) ∧ w67.cell? ⟨gb258, 1, none⟩ = some (.int .i64 a1_1) ∧ w67.cell? ⟨gb258, 2, none⟩ = some (.int .i64 a1_2) ∧ w67.cell? ⟨gb258, 3, none⟩ = some (.int .i64 a1_3) ∧ w67.cell? ⟨gb258, 4, none⟩ = some (.string a1_4) ∧ w67.cell? ⟨gb258, 5, none⟩ = some (.string a1_5) ∧ w67.cell? ⟨gb267, 0, none⟩ = some (.int .i64 t263) ∧ w67.cell? ⟨gb267, 1, none⟩ = some (.int .i64 t264) ∧ w67.cell? ⟨gb267, 2, none⟩ = some (.int .i64 t265) ∧ w67.cell? ⟨gb267, 3, none⟩ = some (.int .i64 t266) := hS_
     refine norm_ (a' := ?_) ?_ ?_
     rotate_left
     ·simp only [putAll, Act.put, List.setIfInBounds_toArray, List.set_cons_zero, List.set_cons_succ]
      rfl
     refine one_ (i := 13) (N := none) #[true, true, true, true, true, true, true, true, true, true, true, true, true, true] rfl rfl (one_of HT_.out (by kernel_rfl)) (by decide) (fun K hK => ?_)
     have hs68 : w67.cell? ⟨gb276, 0, none⟩ = some (.int .i64 0) := (blk_cell BK276.out 0).trans rfl
     have hfs68 := blk_frozen BK276.out 0
     have hns68_0 := NB257_276.out; have hns68_1 := NB258_276.out; have hns68_2 := NB259_276.out; have hns68_3 := NB260_276.out; have hns68_4 := NB267_276.out; have hms68_0 := NB276_257.out; have hms68_1 := NB276_258.out; have hms68_2 := NB276_259.out; have hms68_3 := NB276_260.out; have hms68_4 := NB276_267.out
     have hs69 : w67.cell? ⟨gb276, 1, none⟩ = some (.int .i64 0) := (blk_cell BK276.out 1).trans rfl
     have hfs69 := blk_frozen BK276.out 1
     have hns69_0 := NB257_276.out; have hns69_1 := NB258_276.out; have hns69_2 := NB259_276.out; have hns69_3 := NB260_276.out; have hns69_4 := NB267_276.out; have hms69_0 := NB276_257.out; have hms69_1 := NB276_258.out; have hms69_2 := NB276_259.out; have hms69_3 := NB276_260.out; have hms69_4 := NB276_267.out
     have hs70 : w67.cell? ⟨gb276, 2, none⟩ = some (.int .i64 0) := (blk_cell BK276.out 2).trans rfl
     have hfs70 := blk_frozen BK276.out 2
     have hns70_0 := NB257_276.out; have hns70_1 := NB258_276.out; have hns70_2 := NB259_276.out; have hns70_3 := NB260_276.out; have hns70_4 := NB267_276.out; have hms70_0 := NB276_257.out; have hms70_1 := NB276_258.out; have hms70_2 := NB276_259.out; have hms70_3 := NB276_260.out; have hms70_4 := NB276_267.out
     have hs71 : w67.cell? ⟨gb276, 3, none⟩ = some (.int .i64 0) := (blk_cell BK276.out 3).trans rfl
     have hfs71 := blk_frozen BK276.out 3
     have hns71_0 := NB257_276.out; have hns71_1 := NB258_276.out; have hns71_2 := NB259_276.out; have hns71_3 := NB260_276.out; have hns71_4 := NB267_276.out; have hms71_0 := NB276_257.out; have hms71_1 := NB276_258.out; have hms71_2 := NB276_259.out; have hms71_3 := NB276_260.out; have hms71_4 := NB276_267.out
     have hs72 : w67.cell? ⟨gb276, 4, none⟩ = some (.string (⟨#[]⟩ : ByteArray)) := (blk_cell BK276.out 4).trans rfl
     have hfs72 := blk_frozen BK276.out 4
     have hns72_0 := NB257_276.out; have hns72_1 := NB258_276.out; have hns72_2 := NB259_276.out; have hns72_3 := NB260_276.out; have hns72_4 := NB267_276.out; have hms72_0 := NB276_257.out; have hms72_1 := NB276_258.out; have hms72_2 := NB276_259.out; have hms72_3 := NB276_260.out; have hms72_4 := NB276_267.out
     have hs73 : w67.cell? ⟨gb276, 5, none⟩ = some (.string (⟨#[]⟩ : ByteArray)) := (blk_cell BK276.out 5).trans rfl
     have hfs73 := blk_frozen BK276.out 5
     have hns73_0 := NB257_276.out; have hns73_1 := NB258_276.out; have hns73_2 := NB259_276.out; have hns73_3 := NB260_276.out; have hns73_4 := NB267_276.out; have hms73_0 := NB276_257.out; have hms73_1 := NB276_258.out; have hms73_2 := NB276_259.out; have hms73_3 := NB276_260.out; have hms73_4 := NB276_267.out
     refine skip_ (w1 := ?_) (by rfl) rfl ?_ ?_
     rotate_left
     ·go_simp
      rfl
     refine hK.out _ _ ⟨(cf NB257_276 ((cf NB257_276 ((cf NB257_276 ((cf NB257_276 ((cf NB257_276 ((cf NB257_276 (hHeld.1)))))))))))), (cf NB257_276 ((cf NB257_276 ((cf NB257_276 ((cf NB257_276 ((cf NB257_276 ((cf NB257_276 (hHeld.2.1)))))))))))), (cf NB257_276 ((cf NB257_276 ((cf NB257_276 ((cf NB257_276 ((cf NB257_276 ((cf NB257_276 (hHeld.2.2.1)))))))))))), (cf NB257_276 ((cf NB257_276 ((cf NB257_276 ((cf NB257_276 ((cf NB257_276 ((cf NB257_276 (hHeld.2.2.2.1)))))))))))), (cf NB257_276 ((cf NB257_276 ((cf NB257_276 ((cf NB257_276 ((cf NB257_276 ((cf NB257_276 (hHeld.2.2.2.2.1)))))))))))), (cf NB257_276 ((cf NB257_276 ((cf NB257_276 ((cf NB257_276 ((cf NB257_276 ((cf NB257_276 (hHeld.2.2.2.2.2.1)))))))))))), (cf NB258_276 ((cf NB258_276 ((cf NB258_276 ((cf NB258_276 ((cf NB258_276 ((cf NB258_276 (hHeld.2.2.2.2.2.2.1)))))))))))), (cf NB258_276 ((cf NB258_276 ((cf NB258_276 ((cf NB258_276 ((cf NB258_276 ((cf NB258_276 (hHeld.2.2.2.2.2.2.2.1)))))))))))), (cf NB258_276 ((cf NB258_276 ((cf NB258_276 ((cf NB258_276 ((cf NB258_276 ((cf NB258_276 (hHeld.2.2.2.2.2.2.2.2.1)))))))))))), (cf NB258_276 ((cf NB258_276 ((cf NB258_276 ((cf NB258_276 ((cf NB258_276 ((cf NB258_276 (hHeld.2.2.2.2.2.2.2.2.2.1)))))))))))), (cf NB258_276 ((cf NB258_276 ((cf NB258_276 ((cf NB258_276 ((cf NB258_276 ((cf NB258_276 (hHeld.2.2.2.2.2.2.2.2.2.2.1)))))))))))), (cf NB258_276 ((cf NB258_276 ((cf NB258_276 ((cf NB258_276 ((cf NB258_276 ((cf NB258_276 (hHeld.2.2.2.2.2.2.2.2.2.2.2.1)))))))))))), (cf NB267_276 ((cf NB267_276 ((cf NB267_276 ((cf NB267_276 ((cf NB267_276 ((cf NB267_276 (hHeld.2.2.2.2.2.2.2.2.2.2.2.2.1)))))))))))), (cf NB267_276 ((cf NB267_276 ((cf NB267_276 ((cf NB267_276 ((cf NB267_276 ((cf NB267_276 (hHeld.2.2.2.2.2.2.2.2.2.2.2.2.2.1)))))))))))), (cf NB267_276 ((cf NB267_276 ((cf NB267_276 ((cf NB267_276 ((cf NB267_276 ((cf NB267_276 (hHeld.2.2.2.2.2.2.2.2.2.2.2.2.2.2.1)))))))))))), (cf NB267_276 ((cf NB267_276 ((cf NB267_276 ((cf NB267_276 ((cf NB267_276 ((cf NB267_276 (hHeld.2.2.2.2.2.2.2.2.2.2.2.2.2.2.2))))))))))))⟩ (fun hHeld => ?_)
     clear hK K
     refine done_ (done_of HT_.out (by kernel_rfl)) ?_
     have hnb74 := NB257_276.out; have hnc74 := NB276_257.out; obtain ⟨hcz75_0, hcz75_1, hcz75_2, hcz75_3, hcz75_4, hcz75_5⟩ := cl6 BK257.out; obtain ⟨hfz75_0, hfz75_1, hfz75_2, hfz75_3, hfz75_4, hfz75_5⟩ := fl6 BK257.out
     go_upto_if 49 with (fail)
     go_cut [] (fun wc => ∃ (kq : Nat) (x277004_46 : ByteArray), Aside0 (weld_both.j1 kq a0_0 a0_1 a0_2 a0_3 a0_4 a0_5 a1_0 a1_1 a1_2 a1_3 a1_4 a1_5 t263 t264 t265 t266 t272 t273 t274 t275 x277004_46 a1_5 = some (r1, r2, r3, r4, r5, r6, r7, r8, r9, r10, r11)) ∧ Aside0 (kq ≤ kj2) ∧ Aside0 (wc.heap[gb257]? = some (.cells #[.int .i64 a0_0, .int .i64 a0_1, .int .i64 a0_2, .int .i64 a0_3, .string a0_4, .string a0_5] 36 (0, 0))) ∧ Aside0 (wc.heap[gb258]? = some (.cells #[.int .i64 a1_0, .int .i64 a1_1, .int .i64 a1_2, .int .i64 a1_3, .string a1_4, .string a1_5] 36 (0, 0))) ∧ Aside0 (wc.heap[gb259]? = some (.cells #[.int .i64 0, .int .i64 0, .int .i64 0, .int .i64 0, .string (⟨#[]⟩ : ByteArray), .string (⟨#[]⟩ : ByteArray)] 36 (0, 0))) ∧ Aside0 (wc.heap[gb260]? = some (.cells #[.int .i64 0, .int .i64 0, .int .i64 0, .int .i64 0] 34 (0, 0))) ∧ Aside0 (wc.heap[gb267]? = some (.cells #[.int .i64 t263, .int .i64 t264, .int .i64 t265, .int .i64 t266] 34 (0, 0))) ∧ Aside0 (wc.heap[gb276]? = some (.cells #[.int .i64 t272, .int .i64 t273, .int .i64 t274, .int .i64 t275, .string x277004_46, .string a1_5] 36 (0, 0))) ∧ Aside0 (Below w.heap.size w wc))
     case first =>
      have H := HC47.out; clear HC47
      by_cases c76 : a0_0 < 3
      ·rw [if_pos c76] at H
       have c76b0 : decide (a0_0 < 3) = true := decide_eq_true c76
       clear c76
       (first | rw [c76b0] | (simp only [i64_w, i32_w]; rw [c76b0]) | skip)
       by_cases c77 : a0_4.size + a1_4.size ≤ 9223372036854775807
       ·rw [if_pos c77] at H
        have c77b0 := eq_true c77
        have c77b1 : decide (a0_4.size + a1_4.size ≤ 9223372036854775807) = true := decide_eq_true c77
        try have c77b2 : (9223372036854775807 < a0_4.size + a1_4.size) = False := eq_false (Nat.not_lt.2 c77)
        replace H := Option.bind_eq_some_iff.mp H
        obtain ⟨t277, A780, H⟩ := H
        have A78 := Aside0.mk A780; clear A780; have H' := Aside0.mk H; clear H; have hnb79 := NB257_258.out; have hnc79 := NB258_257.out; have hnb80 := NB257_259.out; have hnc80 := NB259_257.out; have hnb81 := NB257_260.out; have hnc81 := NB260_257.out; have hnb82 := NB257_267.out; have hnc82 := NB267_257.out; have hnb83 := NB257_276.out; have hnc83 := NB276_257.out; obtain ⟨hcz84_0, hcz84_1, hcz84_2, hcz84_3, hcz84_4, hcz84_5⟩ := cl6 BK257.out; obtain ⟨hfz84_0, hfz84_1, hfz84_2, hfz84_3, hfz84_4, hfz84_5⟩ := fl6 BK257.out; have hnb85 := NB258_259.out; have hnc85 := NB259_258.out; have hnb86 := NB258_260.out; have hnc86 := NB260_258.out; have hnb87 := NB258_267.out; have hnc87 := NB267_258.out; have hnb88 := NB258_276.out; have hnc88 := NB276_258.out; obtain ⟨hcz89_0, hcz89_1, hcz89_2, hcz89_3, hcz89_4, hcz89_5⟩ := cl6 BK258.out; obtain ⟨hfz89_0, hfz89_1, hfz89_2, hfz89_3, hfz89_4, hfz89_5⟩ := fl6 BK258.out
        go_wp2_with (first | ((with_reducible refine gate_callee (f := 46) rfl ?_); refine goesL_ (some 55) rfl rfl Tryd.func46 (by kernel_rfl) rfl #[.string (a0_4 ++ a1_4)] rfl (by (try simp only [List.map_toArray, List.map_cons, List.map_nil]); first | done | rfl | (simp only [List.length_drop, List.length_take]; rfl)) ?_; (with_reducible refine (weld_head.calls (a0_4 ++ a1_4) t277 _ A78.out).mono ?_); rintro e w90 ⟨rfl, hb⟩; refine ⟨_, rfl, ?_⟩; have n0_ := Aside0.mk (blk_below (g := gb257) (o := .cells #[.int .i64 a0_0, .int .i64 a0_1, .int .i64 a0_2, .int .i64 a0_3, .string a0_4, .string a0_5] 36 (0, 0)) (by refine pl ?_; refine blk_far ?_ NB257_276.out _; refine pl ?_; refine blk_far ?_ NB257_276.out _; refine pl ?_; refine blk_far ?_ NB257_276.out _; refine pl ?_; refine blk_far ?_ NB257_276.out _; refine pl ?_; refine blk_far ?_ NB257_276.out _; refine pl ?_; refine blk_far ?_ NB257_276.out _; refine pl ?_; exact BK257.out) hb); have n1_ := Aside0.mk (blk_below (g := gb258) (o := .cells #[.int .i64 a1_0, .int .i64 a1_1, .int .i64 a1_2, .int .i64 a1_3, .string a1_4, .string a1_5] 36 (0, 0)) (by refine pl ?_; refine blk_far ?_ NB258_276.out _; refine pl ?_; refine blk_far ?_ NB258_276.out _; refine pl ?_; refine blk_far ?_ NB258_276.out _; refine pl ?_; refine blk_far ?_ NB258_276.out _; refine pl ?_; refine blk_far ?_ NB258_276.out _; refine pl ?_; refine blk_far ?_ NB258_276.out _; refine pl ?_; exact BK258.out) hb); have n2_ := Aside0.mk (blk_below (g := gb259) (o := .cells #[.int .i64 0, .int .i64 0, .int .i64 0, .int .i64 0, .string (⟨#[]⟩ : ByteArray), .string (⟨#[]⟩ : ByteArray)] 36 (0, 0)) (by refine pl ?_; refine blk_far ?_ NB259_276.out _; refine pl ?_; refine blk_far ?_ NB259_276.out _; refine pl ?_; refine blk_far ?_ NB259_276.out _; refine pl ?_; refine blk_far ?_ NB259_276.out _; refine pl ?_; refine blk_far ?_ NB259_276.out _; refine pl ?_; refine blk_far ?_ NB259_276.out _; refine pl ?_; exact BK259.out) hb); have n3_ := Aside0.mk (blk_below (g := gb260) (o := .cells #[.int .i64 0, .int .i64 0, .int .i64 0, .int .i64 0] 34 (0, 0)) (by refine pl ?_; refine blk_far ?_ NB260_276.out _; refine pl ?_; refine blk_far ?_ NB260_276.out _; refine pl ?_; refine blk_far ?_ NB260_276.out _; refine pl ?_; refine blk_far ?_ NB260_276.out _; refine pl ?_; refine blk_far ?_ NB260_276.out _; refine pl ?_; refine blk_far ?_ NB260_276.out _; refine pl ?_; exact BK260.out) hb); have n4_ := Aside0.mk (blk_below (g := gb267) (o := .cells #[.int .i64 t263, .int .i64 t264, .int .i64 t265, .int .i64 t266] 34 (0, 0)) (by refine pl ?_; refine blk_far ?_ NB267_276.out _; refine pl ?_; refine blk_far ?_ NB267_276.out _; refine pl ?_; refine blk_far ?_ NB267_276.out _; refine pl ?_; refine blk_far ?_ NB267_276.out _; refine pl ?_; refine blk_far ?_ NB267_276.out _; refine pl ?_; refine blk_far ?_ NB267_276.out _; refine pl ?_; exact BK267.out) hb); have n5_ := Aside0.mk (blk_below (g := gb276) (o := .cells #[.int .i64 t272, .int .i64 t273, .int .i64 t274, .int .i64 t275, .string a0_4, .string a1_5] 36 (0, 0)) (by refine pl ?_; refine blk_put (cs := #[.int .i64 t272, .int .i64 t273, .int .i64 t274, .int .i64 t275, .string a0_4, .string (⟨#[]⟩ : ByteArray)]) ?_ 5 _ rfl; refine pl ?_; refine blk_put (cs := #[.int .i64 t272, .int .i64 t273, .int .i64 t274, .int .i64 t275, .string (⟨#[]⟩ : ByteArray), .string (⟨#[]⟩ : ByteArray)]) ?_ 4 _ rfl; refine pl ?_; refine blk_put (cs := #[.int .i64 t272, .int .i64 t273, .int .i64 t274, .int .i64 0, .string (⟨#[]⟩ : ByteArray), .string (⟨#[]⟩ : ByteArray)]) ?_ 3 _ rfl; refine pl ?_; refine blk_put (cs := #[.int .i64 t272, .int .i64 t273, .int .i64 0, .int .i64 0, .string (⟨#[]⟩ : ByteArray), .string (⟨#[]⟩ : ByteArray)]) ?_ 2 _ rfl; refine pl ?_; refine blk_put (cs := #[.int .i64 t272, .int .i64 0, .int .i64 0, .int .i64 0, .string (⟨#[]⟩ : ByteArray), .string (⟨#[]⟩ : ByteArray)]) ?_ 1 _ rfl; refine pl ?_; refine blk_put (cs := #[.int .i64 0, .int .i64 0, .int .i64 0, .int .i64 0, .string (⟨#[]⟩ : ByteArray), .string (⟨#[]⟩ : ByteArray)]) ?_ 0 _ rfl; refine pl ?_; exact BK276.out) hb); have n6_ := Aside0.mk (below_step (by repeat (first | (with_reducible first | exact HB.out | apply below_alloc | apply pw_below_drewN | apply below_drew1 | refine below_set ?_ GE257.out | refine below_set ?_ GE258.out | refine below_set ?_ GE259.out | refine below_set ?_ GE260.out | refine below_set ?_ GE267.out | refine below_set ?_ GE276.out) | exact HB.out)) hb); clear BK257; clear BK258; clear BK259; clear BK260; clear BK267; clear BK276; clear HB; have BK257 := n0_; have BK258 := n1_; have BK259 := n2_; have BK260 := n3_; have BK267 := n4_; have BK276 := n5_; have HB := n6_; clear n0_ n1_ n2_ n3_ n4_ n5_ n6_; (try clear hb); (try clear hb2); (try clear hk); (try clear hi); have hnb91 := NB276_259.out; have hnc91 := NB259_276.out; have hnb92 := NB276_260.out; have hnc92 := NB260_276.out; have hnb93 := NB276_267.out; have hnc93 := NB267_276.out; obtain ⟨hcz94_0, hcz94_1, hcz94_2, hcz94_3, hcz94_4, hcz94_5⟩ := cl6 BK276.out; obtain ⟨hfz94_0, hfz94_1, hfz94_2, hfz94_3, hfz94_4, hfz94_5⟩ := fl6 BK276.out))
        go_meet
        case rel => exact ⟨_, (t277), H', ⟨by have := HJ2.out; first | omega | exact Nat.le_refl _⟩, ⟨by refine pl ?_; refine blk_far ?_ NB257_276.out _; refine pl ?_; exact BK257.out⟩, ⟨by refine pl ?_; refine blk_far ?_ NB258_276.out _; refine pl ?_; exact BK258.out⟩, ⟨by refine pl ?_; refine blk_far ?_ NB259_276.out _; refine pl ?_; exact BK259.out⟩, ⟨by refine pl ?_; refine blk_far ?_ NB260_276.out _; refine pl ?_; exact BK260.out⟩, ⟨by refine pl ?_; refine blk_far ?_ NB267_276.out _; refine pl ?_; exact BK267.out⟩, ⟨by refine pl ?_; refine blk_put (cs := #[.int .i64 t272, .int .i64 t273, .int .i64 t274, .int .i64 t275, .string a0_4, .string a1_5]) ?_ 4 _ rfl; refine pl ?_; exact BK276.out⟩, ⟨by repeat (first | (with_reducible first | exact HB.out | apply below_alloc | apply pw_below_drewN | apply below_drew1 | refine below_set ?_ GE257.out | refine below_set ?_ GE258.out | refine below_set ?_ GE259.out | refine below_set ?_ GE260.out | refine below_set ?_ GE267.out | refine below_set ?_ GE276.out) | exact HB.out)⟩⟩
       ·rw [if_neg c77] at H
        exact absurd H (by simp)
      ·rw [if_neg c76] at H
       have c76b0 : decide (a0_0 < 3) = false := decide_eq_false c76
       clear c76
       (first | rw [c76b0] | (simp only [i64_w, i32_w]; rw [c76b0]) | skip)
       have H' := Aside0.mk H; clear H
       go_wp2
       go_meet
       case rel => exact ⟨_, (a0_4), H', ⟨by have := HJ2.out; first | omega | exact Nat.le_refl _⟩, ⟨by refine pl ?_; refine blk_far ?_ NB257_276.out _; refine pl ?_; refine blk_far ?_ NB257_276.out _; refine pl ?_; refine blk_far ?_ NB257_276.out _; refine pl ?_; refine blk_far ?_ NB257_276.out _; refine pl ?_; refine blk_far ?_ NB257_276.out _; refine pl ?_; refine blk_far ?_ NB257_276.out _; refine pl ?_; exact BK257.out⟩, ⟨by refine pl ?_; refine blk_far ?_ NB258_276.out _; refine pl ?_; refine blk_far ?_ NB258_276.out _; refine pl ?_; refine blk_far ?_ NB258_276.out _; refine pl ?_; refine blk_far ?_ NB258_276.out _; refine pl ?_; refine blk_far ?_ NB258_276.out _; refine pl ?_; refine blk_far ?_ NB258_276.out _; refine pl ?_; exact BK258.out⟩, ⟨by refine pl ?_; refine blk_far ?_ NB259_276.out _; refine pl ?_; refine blk_far ?_ NB259_276.out _; refine pl ?_; refine blk_far ?_ NB259_276.out _; refine pl ?_; refine blk_far ?_ NB259_276.out _; refine pl ?_; refine blk_far ?_ NB259_276.out _; refine pl ?_; refine blk_far ?_ NB259_276.out _; refine pl ?_; exact BK259.out⟩, ⟨by refine pl ?_; refine blk_far ?_ NB260_276.out _; refine pl ?_; refine blk_far ?_ NB260_276.out _; refine pl ?_; refine blk_far ?_ NB260_276.out _; refine pl ?_; refine blk_far ?_ NB260_276.out _; refine pl ?_; refine blk_far ?_ NB260_276.out _; refine pl ?_; refine blk_far ?_ NB260_276.out _; refine pl ?_; exact BK260.out⟩, ⟨by refine pl ?_; refine blk_far ?_ NB267_276.out _; refine pl ?_; refine blk_far ?_ NB267_276.out _; refine pl ?_; refine blk_far ?_ NB267_276.out _; refine pl ?_; refine blk_far ?_ NB267_276.out _; refine pl ?_; refine blk_far ?_ NB267_276.out _; refine pl ?_; refine blk_far ?_ NB267_276.out _; refine pl ?_; exact BK267.out⟩, ⟨by refine pl ?_; refine blk_put (cs := #[.int .i64 t272, .int .i64 t273, .int .i64 t274, .int .i64 t275, .string a0_4, .string (⟨#[]⟩ : ByteArray)]) ?_ 5 _ rfl; refine pl ?_; refine blk_put (cs := #[.int .i64 t272, .int .i64 t273, .int .i64 t274, .int .i64 t275, .string (⟨#[]⟩ : ByteArray), .string (⟨#[]⟩ : ByteArray)]) ?_ 4 _ rfl; refine pl ?_; refine blk_put (cs := #[.int .i64 t272, .int .i64 t273, .int .i64 t274, .int .i64 0, .string (⟨#[]⟩ : ByteArray), .string (⟨#[]⟩ : ByteArray)]) ?_ 3 _ rfl; refine pl ?_; refine blk_put (cs := #[.int .i64 t272, .int .i64 t273, .int .i64 0, .int .i64 0, .string (⟨#[]⟩ : ByteArray), .string (⟨#[]⟩ : ByteArray)]) ?_ 2 _ rfl; refine pl ?_; refine blk_put (cs := #[.int .i64 t272, .int .i64 0, .int .i64 0, .int .i64 0, .string (⟨#[]⟩ : ByteArray), .string (⟨#[]⟩ : ByteArray)]) ?_ 1 _ rfl; refine pl ?_; refine blk_put (cs := #[.int .i64 0, .int .i64 0, .int .i64 0, .int .i64 0, .string (⟨#[]⟩ : ByteArray), .string (⟨#[]⟩ : ByteArray)]) ?_ 0 _ rfl; refine pl ?_; exact BK276.out⟩, ⟨by repeat (first | (with_reducible first | exact HB.out | apply below_alloc | apply pw_below_drewN | apply below_drew1 | refine below_set ?_ GE257.out | refine below_set ?_ GE258.out | refine below_set ?_ GE259.out | refine below_set ?_ GE260.out | refine below_set ?_ GE267.out | refine below_set ?_ GE276.out) | exact HB.out)⟩⟩
     case rest =>
      clear HC47; (try clear p2); (try clear c4); (try clear c7); (try clear c8); (try clear c9); (try clear c45); (try clear c46); (try clear c74); (try clear c76); (try clear c76b0); (try clear c77); (try clear c77b0); (try clear c77b1); (try clear c77b2); (try clear c79); (try clear c80); (try clear c81); (try clear c82); (try clear c83); (try clear c85); (try clear c86); (try clear c87); (try clear c88); (try clear c91); (try clear c92); (try clear c93); (try clear hcz75_0); (try clear hcz75_1); (try clear hcz75_2); (try clear hcz75_3); (try clear hcz75_4); (try clear hcz75_5); (try clear hcz84_0); (try clear hcz84_1); (try clear hcz84_2); (try clear hcz84_3); (try clear hcz84_4); (try clear hcz84_5); (try clear hcz89_0); (try clear hcz89_1); (try clear hcz89_2); (try clear hcz89_3); (try clear hcz89_4); (try clear hcz89_5); (try clear hcz94_0); (try clear hcz94_1); (try clear hcz94_2); (try clear hcz94_3); (try clear hcz94_4); (try clear hcz94_5); (try clear hfz75_0); (try clear hfz75_1); (try clear hfz75_2); (try clear hfz75_3); (try clear hfz75_4); (try clear hfz75_5); (try clear hfz84_0); (try clear hfz84_1); (try clear hfz84_2); (try clear hfz84_3); (try clear hfz84_4); (try clear hfz84_5); (try clear hfz89_0); (try clear hfz89_1); (try clear hfz89_2); (try clear hfz89_3); (try clear hfz89_4); (try clear hfz89_5); (try clear hfz94_0); (try clear hfz94_1); (try clear hfz94_2); (try clear hfz94_3); (try clear hfz94_4); (try clear hfz94_5)
      obtain ⟨kq, x277004_46, HA, HJ46, BK257, BK258, BK259, BK260, BK267, BK276, HB⟩ := hcut
      cases kq with
      | zero => exact absurd HA.out (by simp [weld_both.j1])
      | succ kj46 =>
       have H := HA.out; clear HA
       simp only [weld_both.j1] at H
       by_cases c95 : a1_0 < 3
       ·rw [if_pos c95] at H
        have c95b0 : decide (a1_0 < 3) = true := decide_eq_true c95
        clear c95
        by_cases c96 : a0_5.size + a1_5.size ≤ 9223372036854775807
        ·rw [if_pos c96] at H
         have c96b0 := eq_true c96
         have c96b1 : decide (a0_5.size + a1_5.size ≤ 9223372036854775807) = true := decide_eq_true c96
         try have c96b2 : (9223372036854775807 < a0_5.size + a1_5.size) = False := eq_false (Nat.not_lt.2 c96)
         replace H := Option.bind_eq_some_iff.mp H
         obtain ⟨t278, A970, H⟩ := H
         have A97 := Aside0.mk A970; clear A970
         replace H := Option.bind_eq_some_iff.mp H
         obtain ⟨t279, A980, H⟩ := H
         have A98 := Aside0.mk A980; clear A980
         by_cases c99 : t279 = true
         ·subst c99
          have H1 := H; rw [if_pos rfl] at H1
          clear H; have H := H1; clear H1
          simp only [Option.some.injEq, Prod.mk.injEq] at H
          obtain ⟨rfl, rfl, rfl, rfl, rfl, rfl, rfl, rfl, rfl, rfl, rfl⟩ := H
          have hnb100 := NB258_257.out; have hnc100 := NB257_258.out; have hnb101 := NB258_259.out; have hnc101 := NB259_258.out; have hnb102 := NB258_260.out; have hnc102 := NB260_258.out; have hnb103 := NB258_267.out; have hnc103 := NB267_258.out; have hnb104 := NB258_276.out; have hnc104 := NB276_258.out; obtain ⟨hcz105_0, hcz105_1, hcz105_2, hcz105_3, hcz105_4, hcz105_5⟩ := cl6 BK258.out; obtain ⟨hfz105_0, hfz105_1, hfz105_2, hfz105_3, hfz105_4, hfz105_5⟩ := fl6 BK258.out; have hnb106 := NB257_259.out; have hnc106 := NB259_257.out; have hnb107 := NB257_260.out; have hnc107 := NB260_257.out; have hnb108 := NB257_267.out; have hnc108 := NB267_257.out; have hnb109 := NB257_276.out; have hnc109 := NB276_257.out; obtain ⟨hcz110_0, hcz110_1, hcz110_2, hcz110_3, hcz110_4, hcz110_5⟩ := cl6 BK257.out; obtain ⟨hfz110_0, hfz110_1, hfz110_2, hfz110_3, hfz110_4, hfz110_5⟩ := fl6 BK257.out
          try go_wp2_with (first | ((with_reducible refine gate_callee (f := 47) rfl ?_); refine goesL_ (some 66) rfl rfl Tryd.func47 (by kernel_rfl) rfl #[.string (a0_5 ++ a1_5)] rfl (by (try simp only [List.map_toArray, List.map_cons, List.map_nil]); first | done | rfl | (simp only [List.length_drop, List.length_take]; rfl)) ?_; (with_reducible refine (weld_tail.calls (a0_5 ++ a1_5) t278 _ A97.out).mono ?_); rintro e w111 ⟨rfl, hb⟩; refine ⟨_, rfl, ?_⟩; have n0_ := Aside0.mk (blk_below (pl BK257.out) hb); have n1_ := Aside0.mk (blk_below (pl BK258.out) hb); have n2_ := Aside0.mk (blk_below (pl BK259.out) hb); have n3_ := Aside0.mk (blk_below (pl BK260.out) hb); have n4_ := Aside0.mk (blk_below (pl BK267.out) hb); have n5_ := Aside0.mk (blk_below (pl BK276.out) hb); have n6_ := Aside0.mk (below_step (by repeat (first | (with_reducible first | exact HB.out | apply below_alloc | apply pw_below_drewN | apply below_drew1 | refine below_set ?_ GE257.out | refine below_set ?_ GE258.out | refine below_set ?_ GE259.out | refine below_set ?_ GE260.out | refine below_set ?_ GE267.out | refine below_set ?_ GE276.out) | exact HB.out)) hb); clear BK257; clear BK258; clear BK259; clear BK260; clear BK267; clear BK276; clear HB; have BK257 := n0_; have BK258 := n1_; have BK259 := n2_; have BK260 := n3_; have BK267 := n4_; have BK276 := n5_; have HB := n6_; clear n0_ n1_ n2_ n3_ n4_ n5_ n6_; (try clear hb); (try clear hb2); (try clear hk); (try clear hi); have hnb112 := NB276_259.out; have hnc112 := NB259_276.out; have hnb113 := NB276_260.out; have hnc113 := NB260_276.out; have hnb114 := NB276_267.out; have hnc114 := NB267_276.out; obtain ⟨hcz115_0, hcz115_1, hcz115_2, hcz115_3, hcz115_4, hcz115_5⟩ := cl6 BK276.out; obtain ⟨hfz115_0, hfz115_1, hfz115_2, hfz115_3, hfz115_4, hfz115_5⟩ := fl6 BK276.out) | ((with_reducible refine gate_callee (f := 43) rfl ?_); refine goesL_ (some 69) rfl rfl Tryd.func43 (by kernel_rfl) rfl #[.agg #[.int .i64 t272, .int .i64 t273, .int .i64 t274, .int .i64 t275, .string x277004_46, .string t278]] rfl (by (try simp only [List.map_toArray, List.map_cons, List.map_nil]); first | done | rfl | (simp only [List.length_drop, List.length_take]; rfl)) ?_; (with_reducible refine (weld_Valid.calls kj46 t272 t273 t274 t275 x277004_46 t278 true _ ?side1 A98.out).mono ?_); (case side1 => first | (with_reducible exact HG.out) | exact Glob.Globs_below HG.out (by repeat (first | (with_reducible first | exact HB.out | apply below_alloc | apply pw_below_drewN | apply below_drew1 | refine below_set ?_ GE257.out | refine below_set ?_ GE258.out | refine below_set ?_ GE259.out | refine below_set ?_ GE260.out | refine below_set ?_ GE267.out | refine below_set ?_ GE276.out) | exact HB.out))); rintro e w116 ⟨rfl, hb⟩; refine ⟨_, rfl, ?_⟩; have n0_ := Aside0.mk (blk_below (g := gb257) (o := .cells #[.int .i64 a0_0, .int .i64 a0_1, .int .i64 a0_2, .int .i64 a0_3, .string a0_4, .string a0_5] 36 (0, 0)) (by refine pl ?_; refine blk_far ?_ NB257_276.out _; refine pl ?_; exact BK257.out) hb); have n1_ := Aside0.mk (blk_below (g := gb258) (o := .cells #[.int .i64 a1_0, .int .i64 a1_1, .int .i64 a1_2, .int .i64 a1_3, .string a1_4, .string a1_5] 36 (0, 0)) (by refine pl ?_; refine blk_far ?_ NB258_276.out _; refine pl ?_; exact BK258.out) hb); have n2_ := Aside0.mk (blk_below (g := gb259) (o := .cells #[.int .i64 0, .int .i64 0, .int .i64 0, .int .i64 0, .string (⟨#[]⟩ : ByteArray), .string (⟨#[]⟩ : ByteArray)] 36 (0, 0)) (by refine pl ?_; refine blk_far ?_ NB259_276.out _; refine pl ?_; exact BK259.out) hb); have n3_ := Aside0.mk (blk_below (g := gb260) (o := .cells #[.int .i64 0, .int .i64 0, .int .i64 0, .int .i64 0] 34 (0, 0)) (by refine pl ?_; refine blk_far ?_ NB260_276.out _; refine pl ?_; exact BK260.out) hb); have n4_ := Aside0.mk (blk_below (g := gb267) (o := .cells #[.int .i64 t263, .int .i64 t264, .int .i64 t265, .int .i64 t266] 34 (0, 0)) (by refine pl ?_; refine blk_far ?_ NB267_276.out _; refine pl ?_; exact BK267.out) hb); have n5_ := Aside0.mk (blk_below (g := gb276) (o := .cells #[.int .i64 t272, .int .i64 t273, .int .i64 t274, .int .i64 t275, .string x277004_46, .string t278] 36 (0, 0)) (by refine pl ?_; refine blk_put (cs := #[.int .i64 t272, .int .i64 t273, .int .i64 t274, .int .i64 t275, .string x277004_46, .string a1_5]) ?_ 5 _ rfl; refine pl ?_; exact BK276.out) hb); have n6_ := Aside0.mk (below_step (by repeat (first | (with_reducible first | exact HB.out | apply below_alloc | apply pw_below_drewN | apply below_drew1 | refine below_set ?_ GE257.out | refine below_set ?_ GE258.out | refine below_set ?_ GE259.out | refine below_set ?_ GE260.out | refine below_set ?_ GE267.out | refine below_set ?_ GE276.out) | exact HB.out)) hb); clear BK257; clear BK258; clear BK259; clear BK260; clear BK267; clear BK276; clear HB; have BK257 := n0_; have BK258 := n1_; have BK259 := n2_; have BK260 := n3_; have BK267 := n4_; have BK276 := n5_; have HB := n6_; clear n0_ n1_ n2_ n3_ n4_ n5_ n6_; (try clear hb); (try clear hb2); (try clear hk); (try clear hi)))
          have n0_ := Aside0.mk (blk_drew BK257.out)
          have n1_ := Aside0.mk (blk_drew BK258.out)
          have n2_ := Aside0.mk (blk_drew BK259.out)
          have n3_ := Aside0.mk (blk_drew BK260.out)
          have n4_ := Aside0.mk (blk_drew BK267.out)
          have n5_ := Aside0.mk (blk_drew BK276.out)
          have n6_ := Aside0.mk (below_drew1 HB.out)
          clear BK257; clear BK258; clear BK259; clear BK260; clear BK267; clear BK276; clear HB; have BK257 := n0_; have BK258 := n1_; have BK259 := n2_; have BK260 := n3_; have BK267 := n4_; have BK276 := n5_; have HB := n6_; clear n0_ n1_ n2_ n3_ n4_ n5_ n6_
          refine start_ (n := 5) (S := fun w' => w'.cell? ⟨gb276, 0, none⟩ = some (.int .i64 t272) ∧ w'.cell? ⟨gb276, 1, none⟩ = some (.int .i64 t273) ∧ w'.cell? ⟨gb276, 2, none⟩ = some (.int .i64 t274) ∧ w'.cell? ⟨gb276, 3, none⟩ = some (.int .i64 t275) ∧ w'.cell? ⟨gb276, 4, none⟩ = some (.string x277004_46) ∧ w'.cell? ⟨gb276, 5, none⟩ = some (.string t278) ∧ w'.cell? ⟨gb267, 0, none⟩ = some (.int .i64 t263) ∧ w'.cell? ⟨gb267, 1, none⟩ = some (.int .i64 t264) ∧ w'.cell? ⟨gb267, 2, none⟩ = some (.int .i64 t265) ∧ w'.cell? ⟨gb267, 3, none⟩ = some (.int .i64 t266)) (ds := []) #[false, false, false, false, false] (by kernel_rfl) rfl rfl ⟨(blk_cell BK276.out 0).trans rfl, (blk_cell BK276.out 1).trans rfl, (blk_cell BK276.out 2).trans rfl, (blk_cell BK276.out 3).trans rfl, (blk_cell BK276.out 4).trans rfl, (blk_cell BK276.out 5).trans rfl, (blk_cell BK267.out 0).trans rfl, (blk_cell BK267.out 1).trans rfl, (blk_cell BK267.out 2).trans rfl, (blk_cell BK267.out 3).trans rfl⟩ (fun hHeld => ?_)
          generalize w116.drew = w117 at BK257 BK258 BK259 BK260 BK267 BK276 HB hHeld ⊢
          refine take_ (i := 0) (N := some 73) (v := ?_) (a' := ?_) #[true, false, false, false, false] rfl rfl (by kernel_rfl) (fun _ _ _ h => h) (Or.inl ⟨by rfl, ?_⟩) hHeld ?_ ?_
          rotate_left
          ·rintro w' ⟨s0, s1, s2, s3, s4, s5, s6, s7, s8, s9⟩
           go_simp
           with_reducible rfl
          rotate_left
          ·simp only [Act.put, List.setIfInBounds_toArray, List.set_cons_zero, List.set_cons_succ, i64_w, i32_w]
           rfl
          refine take_ (i := 1) (N := some 74) (v := ?_) (a' := ?_) #[true, true, false, false, false] rfl rfl (by kernel_rfl) (fun _ _ _ h => h) (Or.inl ⟨by rfl, ?_⟩) hHeld ?_ ?_
          rotate_left
          ·rintro w' ⟨s0, s1, s2, s3, s4, s5, s6, s7, s8, s9⟩
           go_simp
           with_reducible rfl
          rotate_left
          ·simp only [Act.put, List.setIfInBounds_toArray, List.set_cons_zero, List.set_cons_succ, i64_w, i32_w]
           rfl
          refine one_ (i := 2) (N := none) #[true, true, true, false, false] rfl rfl (by kernel_rfl) (by decide) (fun K hK => ?_)
          have hs118 : w117.cell? ⟨gb259, 0, none⟩ = some (.int .i64 0) := (blk_cell BK259.out 0).trans rfl
          have hfs118 := blk_frozen BK259.out 0
          have hns118_0 := NB257_259.out; have hns118_1 := NB258_259.out; have hns118_3 := NB260_259.out; have hns118_4 := NB267_259.out; have hns118_5 := NB276_259.out; have hms118_0 := NB259_257.out; have hms118_1 := NB259_258.out; have hms118_3 := NB259_260.out; have hms118_4 := NB259_267.out; have hms118_5 := NB259_276.out
          have hs119 : w117.cell? ⟨gb259, 1, none⟩ = some (.int .i64 0) := (blk_cell BK259.out 1).trans rfl
          have hfs119 := blk_frozen BK259.out 1
          have hns119_0 := NB257_259.out; have hns119_1 := NB258_259.out; have hns119_3 := NB260_259.out; have hns119_4 := NB267_259.out; have hns119_5 := NB276_259.out; have hms119_0 := NB259_257.out; have hms119_1 := NB259_258.out; have hms119_3 := NB259_260.out; have hms119_4 := NB259_267.out; have hms119_5 := NB259_276.out
          have hs120 : w117.cell? ⟨gb259, 2, none⟩ = some (.int .i64 0) := (blk_cell BK259.out 2).trans rfl
          have hfs120 := blk_frozen BK259.out 2
          have hns120_0 := NB257_259.out; have hns120_1 := NB258_259.out; have hns120_3 := NB260_259.out; have hns120_4 := NB267_259.out; have hns120_5 := NB276_259.out; have hms120_0 := NB259_257.out; have hms120_1 := NB259_258.out; have hms120_3 := NB259_260.out; have hms120_4 := NB259_267.out; have hms120_5 := NB259_276.out
          have hs121 : w117.cell? ⟨gb259, 3, none⟩ = some (.int .i64 0) := (blk_cell BK259.out 3).trans rfl
          have hfs121 := blk_frozen BK259.out 3
          have hns121_0 := NB257_259.out; have hns121_1 := NB258_259.out; have hns121_3 := NB260_259.out; have hns121_4 := NB267_259.out; have hns121_5 := NB276_259.out; have hms121_0 := NB259_257.out; have hms121_1 := NB259_258.out; have hms121_3 := NB259_260.out; have hms121_4 := NB259_267.out; have hms121_5 := NB259_276.out
          have hs122 : w117.cell? ⟨gb259, 4, none⟩ = some (.string (⟨#[]⟩ : ByteArray)) := (blk_cell BK259.out 4).trans rfl
          have hfs122 := blk_frozen BK259.out 4
          have hns122_0 := NB257_259.out; have hns122_1 := NB258_259.out; have hns122_3 := NB260_259.out; have hns122_4 := NB267_259.out; have hns122_5 := NB276_259.out; have hms122_0 := NB259_257.out; have hms122_1 := NB259_258.out; have hms122_3 := NB259_260.out; have hms122_4 := NB259_267.out; have hms122_5 := NB259_276.out
          have hs123 : w117.cell? ⟨gb259, 5, none⟩ = some (.string (⟨#[]⟩ : ByteArray)) := (blk_cell BK259.out 5).trans rfl
          have hfs123 := blk_frozen BK259.out 5
          have hns123_0 := NB257_259.out; have hns123_1 := NB258_259.out; have hns123_3 := NB260_259.out; have hns123_4 := NB267_259.out; have hns123_5 := NB276_259.out; have hms123_0 := NB259_257.out; have hms123_1 := NB259_258.out; have hms123_3 := NB259_260.out; have hms123_4 := NB259_267.out; have hms123_5 := NB259_276.out
          refine skip_ (w1 := ?_) (by rfl) rfl ?_ ?_
          rotate_left
          ·go_simp
           rfl
          refine hK.out _ _ ⟨(cf NB276_259 ((cf NB276_259 ((cf NB276_259 ((cf NB276_259 ((cf NB276_259 ((cf NB276_259 (hHeld.1)))))))))))), (cf NB276_259 ((cf NB276_259 ((cf NB276_259 ((cf NB276_259 ((cf NB276_259 ((cf NB276_259 (hHeld.2.1)))))))))))), (cf NB276_259 ((cf NB276_259 ((cf NB276_259 ((cf NB276_259 ((cf NB276_259 ((cf NB276_259 (hHeld.2.2.1)))))))))))), (cf NB276_259 ((cf NB276_259 ((cf NB276_259 ((cf NB276_259 ((cf NB276_259 ((cf NB276_259 (hHeld.2.2.2.1)))))))))))), (cf NB276_259 ((cf NB276_259 ((cf NB276_259 ((cf NB276_259 ((cf NB276_259 ((cf NB276_259 (hHeld.2.2.2.2.1)))))))))))), (cf NB276_259 ((cf NB276_259 ((cf NB276_259 ((cf NB276_259 ((cf NB276_259 ((cf NB276_259 (hHeld.2.2.2.2.2.1)))))))))))), (cf NB267_259 ((cf NB267_259 ((cf NB267_259 ((cf NB267_259 ((cf NB267_259 ((cf NB267_259 (hHeld.2.2.2.2.2.2.1)))))))))))), (cf NB267_259 ((cf NB267_259 ((cf NB267_259 ((cf NB267_259 ((cf NB267_259 ((cf NB267_259 (hHeld.2.2.2.2.2.2.2.1)))))))))))), (cf NB267_259 ((cf NB267_259 ((cf NB267_259 ((cf NB267_259 ((cf NB267_259 ((cf NB267_259 (hHeld.2.2.2.2.2.2.2.2.1)))))))))))), (cf NB267_259 ((cf NB267_259 ((cf NB267_259 ((cf NB267_259 ((cf NB267_259 ((cf NB267_259 (hHeld.2.2.2.2.2.2.2.2.2))))))))))))⟩ (fun hHeld => ?_)
          clear hK K
          refine one_ (i := 3) (N := none) #[true, true, true, true, false] rfl rfl (by kernel_rfl) (by decide) (fun K hK => ?_)
          have hs124 : w117.cell? ⟨gb260, 0, none⟩ = some (.int .i64 0) := (blk_cell BK260.out 0).trans rfl
          have hfs124 := blk_frozen BK260.out 0
          have hns124_0 := NB257_260.out; have hns124_1 := NB258_260.out; have hns124_2 := NB259_260.out; have hns124_4 := NB267_260.out; have hns124_5 := NB276_260.out; have hms124_0 := NB260_257.out; have hms124_1 := NB260_258.out; have hms124_2 := NB260_259.out; have hms124_4 := NB260_267.out; have hms124_5 := NB260_276.out
          have hs125 : w117.cell? ⟨gb260, 1, none⟩ = some (.int .i64 0) := (blk_cell BK260.out 1).trans rfl
          have hfs125 := blk_frozen BK260.out 1
          have hns125_0 := NB257_260.out; have hns125_1 := NB258_260.out; have hns125_2 := NB259_260.out; have hns125_4 := NB267_260.out; have hns125_5 := NB276_260.out; have hms125_0 := NB260_257.out; have hms125_1 := NB260_258.out; have hms125_2 := NB260_259.out; have hms125_4 := NB260_267.out; have hms125_5 := NB260_276.out
          have hs126 : w117.cell? ⟨gb260, 2, none⟩ = some (.int .i64 0) := (blk_cell BK260.out 2).trans rfl
          have hfs126 := blk_frozen BK260.out 2
          have hns126_0 := NB257_260.out; have hns126_1 := NB258_260.out; have hns126_2 := NB259_260.out; have hns126_4 := NB267_260.out; have hns126_5 := NB276_260.out; have hms126_0 := NB260_257.out; have hms126_1 := NB260_258.out; have hms126_2 := NB260_259.out; have hms126_4 := NB260_267.out; have hms126_5 := NB260_276.out
          have hs127 : w117.cell? ⟨gb260, 3, none⟩ = some (.int .i64 0) := (blk_cell BK260.out 3).trans rfl
          have hfs127 := blk_frozen BK260.out 3
          have hns127_0 := NB257_260.out; have hns127_1 := NB258_260.out; have hns127_2 := NB259_260.out; have hns127_4 := NB267_260.out; have hns127_5 := NB276_260.out; have hms127_0 := NB260_257.out; have hms127_1 := NB260_258.out; have hms127_2 := NB260_259.out; have hms127_4 := NB260_267.out; have hms127_5 := NB260_276.out
          refine skip_ (w1 := ?_) (by rfl) rfl ?_ ?_
          rotate_left
          ·go_simp
           rfl
          refine hK.out _ _ ⟨(cf NB276_260 ((cf NB276_260 ((cf NB276_260 ((cf NB276_260 (hHeld.1)))))))), (cf NB276_260 ((cf NB276_260 ((cf NB276_260 ((cf NB276_260 (hHeld.2.1)))))))), (cf NB276_260 ((cf NB276_260 ((cf NB276_260 ((cf NB276_260 (hHeld.2.2.1)))))))), (cf NB276_260 ((cf NB276_260 ((cf NB276_260 ((cf NB276_260 (hHeld.2.2.2.1)))))))), (cf NB276_260 ((cf NB276_260 ((cf NB276_260 ((cf NB276_260 (hHeld.2.2.2.2.1)))))))), (cf NB276_260 ((cf NB276_260 ((cf NB276_260 ((cf NB276_260 (hHeld.2.2.2.2.2.1)))))))), (cf NB267_260 ((cf NB267_260 ((cf NB267_260 ((cf NB267_260 (hHeld.2.2.2.2.2.2.1)))))))), (cf NB267_260 ((cf NB267_260 ((cf NB267_260 ((cf NB267_260 (hHeld.2.2.2.2.2.2.2.1)))))))), (cf NB267_260 ((cf NB267_260 ((cf NB267_260 ((cf NB267_260 (hHeld.2.2.2.2.2.2.2.2.1)))))))), (cf NB267_260 ((cf NB267_260 ((cf NB267_260 ((cf NB267_260 (hHeld.2.2.2.2.2.2.2.2.2))))))))⟩ (fun hHeld => ?_)
          clear hK K
          refine pure_ (i := 4) (N := some 6) (v := ?_) (a' := ?_) #[true, true, true, true, true] rfl rfl (by kernel_rfl) (fun _ _ _ h => h) (Or.inl ⟨by rfl, ?_⟩) ?_ ?_
          rotate_left
          ·intro w'
           go_simp
           with_reducible rfl
          rotate_left
          ·simp only [Act.put, List.setIfInBounds_toArray, List.set_cons_zero, List.set_cons_succ, i64_w, i32_w]
           rfl
          refine done_ (by kernel_rfl) ?_
          try go_wp2
          refine bodyPost_ret (results_list (rs := [.cell 4 36, .cell 5 34, .tmp 6]) rfl (by simp) (.cell gb259 36 #[.int .i64 t272, .int .i64 t273, .int .i64 t274, .int .i64 t275, .string x277004_46, .string t278] (0, 0) _ rfl (by refine pl ?_; refine blk_far ?_ NB259_260.out _; refine pl ?_; refine blk_far ?_ NB259_260.out _; refine pl ?_; refine blk_far ?_ NB259_260.out _; refine pl ?_; refine blk_far ?_ NB259_260.out _; refine pl ?_; refine blk_put (cs := #[.int .i64 t272, .int .i64 t273, .int .i64 t274, .int .i64 t275, .string x277004_46, .string (⟨#[]⟩ : ByteArray)]) ?_ 5 _ rfl; refine pl ?_; refine blk_put (cs := #[.int .i64 t272, .int .i64 t273, .int .i64 t274, .int .i64 t275, .string (⟨#[]⟩ : ByteArray), .string (⟨#[]⟩ : ByteArray)]) ?_ 4 _ rfl; refine pl ?_; refine blk_put (cs := #[.int .i64 t272, .int .i64 t273, .int .i64 t274, .int .i64 0, .string (⟨#[]⟩ : ByteArray), .string (⟨#[]⟩ : ByteArray)]) ?_ 3 _ rfl; refine pl ?_; refine blk_put (cs := #[.int .i64 t272, .int .i64 t273, .int .i64 0, .int .i64 0, .string (⟨#[]⟩ : ByteArray), .string (⟨#[]⟩ : ByteArray)]) ?_ 2 _ rfl; refine pl ?_; refine blk_put (cs := #[.int .i64 t272, .int .i64 0, .int .i64 0, .int .i64 0, .string (⟨#[]⟩ : ByteArray), .string (⟨#[]⟩ : ByteArray)]) ?_ 1 _ rfl; refine pl ?_; refine blk_put (cs := #[.int .i64 0, .int .i64 0, .int .i64 0, .int .i64 0, .string (⟨#[]⟩ : ByteArray), .string (⟨#[]⟩ : ByteArray)]) ?_ 0 _ rfl; refine pl ?_; exact BK259.out) Tryd.underlying36 rfl (by kernel_rfl) (.cell gb260 34 #[.int .i64 t263, .int .i64 t264, .int .i64 t265, .int .i64 t266] (0, 0) _ rfl (by refine pl ?_; refine blk_put (cs := #[.int .i64 t263, .int .i64 t264, .int .i64 t265, .int .i64 0]) ?_ 3 _ rfl; refine pl ?_; refine blk_put (cs := #[.int .i64 t263, .int .i64 t264, .int .i64 0, .int .i64 0]) ?_ 2 _ rfl; refine pl ?_; refine blk_put (cs := #[.int .i64 t263, .int .i64 0, .int .i64 0, .int .i64 0]) ?_ 1 _ rfl; refine pl ?_; refine blk_put (cs := #[.int .i64 0, .int .i64 0, .int .i64 0, .int .i64 0]) ?_ 0 _ rfl; refine pl ?_; refine blk_far ?_ NB260_259.out _; refine pl ?_; refine blk_far ?_ NB260_259.out _; refine pl ?_; refine blk_far ?_ NB260_259.out _; refine pl ?_; refine blk_far ?_ NB260_259.out _; refine pl ?_; refine blk_far ?_ NB260_259.out _; refine pl ?_; refine blk_far ?_ NB260_259.out _; refine pl ?_; exact BK260.out) Tryd.underlying34 rfl (by kernel_rfl) (.tmp .nil)))) rfl ?_
          exact ⟨by first | rfl | (simp [*] <;> rfl), by repeat (first | (with_reducible first | exact HB.out | apply below_alloc | apply pw_below_drewN | apply below_drew1 | refine below_set ?_ GE257.out | refine below_set ?_ GE258.out | refine below_set ?_ GE259.out | refine below_set ?_ GE260.out | refine below_set ?_ GE267.out | refine below_set ?_ GE276.out) | exact HB.out)⟩
         ·replace c99 := Bool.eq_false_iff.mpr c99
          subst c99
          have H1 := H; rw [if_neg (show ¬ (false = true) by decide)] at H1
          clear H; have H := H1; clear H1
          simp only [Option.some.injEq, Prod.mk.injEq] at H
          obtain ⟨rfl, rfl, rfl, rfl, rfl, rfl, rfl, rfl, rfl, rfl, rfl⟩ := H
          have hnb128 := NB258_257.out; have hnc128 := NB257_258.out; have hnb129 := NB258_259.out; have hnc129 := NB259_258.out; have hnb130 := NB258_260.out; have hnc130 := NB260_258.out; have hnb131 := NB258_267.out; have hnc131 := NB267_258.out; have hnb132 := NB258_276.out; have hnc132 := NB276_258.out; obtain ⟨hcz133_0, hcz133_1, hcz133_2, hcz133_3, hcz133_4, hcz133_5⟩ := cl6 BK258.out; obtain ⟨hfz133_0, hfz133_1, hfz133_2, hfz133_3, hfz133_4, hfz133_5⟩ := fl6 BK258.out; have hnb134 := NB257_259.out; have hnc134 := NB259_257.out; have hnb135 := NB257_260.out; have hnc135 := NB260_257.out; have hnb136 := NB257_267.out; have hnc136 := NB267_257.out; have hnb137 := NB257_276.out; have hnc137 := NB276_257.out; obtain ⟨hcz138_0, hcz138_1, hcz138_2, hcz138_3, hcz138_4, hcz138_5⟩ := cl6 BK257.out; obtain ⟨hfz138_0, hfz138_1, hfz138_2, hfz138_3, hfz138_4, hfz138_5⟩ := fl6 BK257.out
          go_wp2_with (first | ((with_reducible refine gate_callee (f := 47) rfl ?_); refine goesL_ (some 66) rfl rfl Tryd.func47 (by kernel_rfl) rfl #[.string (a0_5 ++ a1_5)] rfl (by (try simp only [List.map_toArray, List.map_cons, List.map_nil]); first | done | rfl | (simp only [List.length_drop, List.length_take]; rfl)) ?_; (with_reducible refine (weld_tail.calls (a0_5 ++ a1_5) t278 _ A97.out).mono ?_); rintro e w139 ⟨rfl, hb⟩; refine ⟨_, rfl, ?_⟩; have n0_ := Aside0.mk (blk_below (pl BK257.out) hb); have n1_ := Aside0.mk (blk_below (pl BK258.out) hb); have n2_ := Aside0.mk (blk_below (pl BK259.out) hb); have n3_ := Aside0.mk (blk_below (pl BK260.out) hb); have n4_ := Aside0.mk (blk_below (pl BK267.out) hb); have n5_ := Aside0.mk (blk_below (pl BK276.out) hb); have n6_ := Aside0.mk (below_step (by repeat (first | (with_reducible first | exact HB.out | apply below_alloc | apply pw_below_drewN | apply below_drew1 | refine below_set ?_ GE257.out | refine below_set ?_ GE258.out | refine below_set ?_ GE259.out | refine below_set ?_ GE260.out | refine below_set ?_ GE267.out | refine below_set ?_ GE276.out) | exact HB.out)) hb); clear BK257; clear BK258; clear BK259; clear BK260; clear BK267; clear BK276; clear HB; have BK257 := n0_; have BK258 := n1_; have BK259 := n2_; have BK260 := n3_; have BK267 := n4_; have BK276 := n5_; have HB := n6_; clear n0_ n1_ n2_ n3_ n4_ n5_ n6_; (try clear hb); (try clear hb2); (try clear hk); (try clear hi); have hnb140 := NB276_259.out; have hnc140 := NB259_276.out; have hnb141 := NB276_260.out; have hnc141 := NB260_276.out; have hnb142 := NB276_267.out; have hnc142 := NB267_276.out; obtain ⟨hcz143_0, hcz143_1, hcz143_2, hcz143_3, hcz143_4, hcz143_5⟩ := cl6 BK276.out; obtain ⟨hfz143_0, hfz143_1, hfz143_2, hfz143_3, hfz143_4, hfz143_5⟩ := fl6 BK276.out) | ((with_reducible refine gate_callee (f := 43) rfl ?_); refine goesL_ (some 69) rfl rfl Tryd.func43 (by kernel_rfl) rfl #[.agg #[.int .i64 t272, .int .i64 t273, .int .i64 t274, .int .i64 t275, .string x277004_46, .string t278]] rfl (by (try simp only [List.map_toArray, List.map_cons, List.map_nil]); first | done | rfl | (simp only [List.length_drop, List.length_take]; rfl)) ?_; (with_reducible refine (weld_Valid.calls kj46 t272 t273 t274 t275 x277004_46 t278 false _ ?side1 A98.out).mono ?_); (case side1 => first | (with_reducible exact HG.out) | exact Glob.Globs_below HG.out (by repeat (first | (with_reducible first | exact HB.out | apply below_alloc | apply pw_below_drewN | apply below_drew1 | refine below_set ?_ GE257.out | refine below_set ?_ GE258.out | refine below_set ?_ GE259.out | refine below_set ?_ GE260.out | refine below_set ?_ GE267.out | refine below_set ?_ GE276.out) | exact HB.out))); rintro e w144 ⟨rfl, hb⟩; refine ⟨_, rfl, ?_⟩; have n0_ := Aside0.mk (blk_below (g := gb257) (o := .cells #[.int .i64 a0_0, .int .i64 a0_1, .int .i64 a0_2, .int .i64 a0_3, .string a0_4, .string a0_5] 36 (0, 0)) (by refine pl ?_; refine blk_far ?_ NB257_276.out _; refine pl ?_; exact BK257.out) hb); have n1_ := Aside0.mk (blk_below (g := gb258) (o := .cells #[.int .i64 a1_0, .int .i64 a1_1, .int .i64 a1_2, .int .i64 a1_3, .string a1_4, .string a1_5] 36 (0, 0)) (by refine pl ?_; refine blk_far ?_ NB258_276.out _; refine pl ?_; exact BK258.out) hb); have n2_ := Aside0.mk (blk_below (g := gb259) (o := .cells #[.int .i64 0, .int .i64 0, .int .i64 0, .int .i64 0, .string (⟨#[]⟩ : ByteArray), .string (⟨#[]⟩ : ByteArray)] 36 (0, 0)) (by refine pl ?_; refine blk_far ?_ NB259_276.out _; refine pl ?_; exact BK259.out) hb); have n3_ := Aside0.mk (blk_below (g := gb260) (o := .cells #[.int .i64 0, .int .i64 0, .int .i64 0, .int .i64 0] 34 (0, 0)) (by refine pl ?_; refine blk_far ?_ NB260_276.out _; refine pl ?_; exact BK260.out) hb); have n4_ := Aside0.mk (blk_below (g := gb267) (o := .cells #[.int .i64 t263, .int .i64 t264, .int .i64 t265, .int .i64 t266] 34 (0, 0)) (by refine pl ?_; refine blk_far ?_ NB267_276.out _; refine pl ?_; exact BK267.out) hb); have n5_ := Aside0.mk (blk_below (g := gb276) (o := .cells #[.int .i64 t272, .int .i64 t273, .int .i64 t274, .int .i64 t275, .string x277004_46, .string t278] 36 (0, 0)) (by refine pl ?_; refine blk_put (cs := #[.int .i64 t272, .int .i64 t273, .int .i64 t274, .int .i64 t275, .string x277004_46, .string a1_5]) ?_ 5 _ rfl; refine pl ?_; exact BK276.out) hb); have n6_ := Aside0.mk (below_step (by repeat (first | (with_reducible first | exact HB.out | apply below_alloc | apply pw_below_drewN | apply below_drew1 | refine below_set ?_ GE257.out | refine below_set ?_ GE258.out | refine below_set ?_ GE259.out | refine below_set ?_ GE260.out | refine below_set ?_ GE267.out | refine below_set ?_ GE276.out) | exact HB.out)) hb); clear BK257; clear BK258; clear BK259; clear BK260; clear BK267; clear BK276; clear HB; have BK257 := n0_; have BK258 := n1_; have BK259 := n2_; have BK260 := n3_; have BK267 := n4_; have BK276 := n5_; have HB := n6_; clear n0_ n1_ n2_ n3_ n4_ n5_ n6_; (try clear hb); (try clear hb2); (try clear hk); (try clear hi); have hnb145 := NB259_260.out; have hnc145 := NB260_259.out; have hnb146 := NB259_267.out; have hnc146 := NB267_259.out; obtain ⟨hcz147_0, hcz147_1, hcz147_2, hcz147_3, hcz147_4, hcz147_5⟩ := cl6 BK259.out; obtain ⟨hfz147_0, hfz147_1, hfz147_2, hfz147_3, hfz147_4, hfz147_5⟩ := fl6 BK259.out; have hnb148 := NB260_267.out; have hnc148 := NB267_260.out; obtain ⟨hcz149_0, hcz149_1, hcz149_2, hcz149_3⟩ := cl4 BK260.out; obtain ⟨hfz149_0, hfz149_1, hfz149_2, hfz149_3⟩ := fl4 BK260.out))
          refine bodyPost_ret (results_list (rs := [.cell 4 36, .cell 5 34, .tmp 6]) rfl (by simp) (.cell gb259 36 #[.int .i64 0, .int .i64 0, .int .i64 0, .int .i64 0, .string (⟨#[]⟩ : ByteArray), .string (⟨#[]⟩ : ByteArray)] (0, 0) _ rfl (by refine pl ?_; refine blk_far ?_ NB259_260.out _; refine pl ?_; refine blk_far ?_ NB259_260.out _; refine pl ?_; refine blk_far ?_ NB259_260.out _; refine pl ?_; refine blk_far ?_ NB259_260.out _; refine pl ?_; refine blk_put (cs := #[.int .i64 0, .int .i64 0, .int .i64 0, .int .i64 0, .string (⟨#[]⟩ : ByteArray), .string (⟨#[]⟩ : ByteArray)]) ?_ 5 _ rfl; refine pl ?_; refine blk_put (cs := #[.int .i64 0, .int .i64 0, .int .i64 0, .int .i64 0, .string (⟨#[]⟩ : ByteArray), .string (⟨#[]⟩ : ByteArray)]) ?_ 4 _ rfl; refine pl ?_; refine blk_put (cs := #[.int .i64 0, .int .i64 0, .int .i64 0, .int .i64 0, .string (⟨#[]⟩ : ByteArray), .string (⟨#[]⟩ : ByteArray)]) ?_ 3 _ rfl; refine pl ?_; refine blk_put (cs := #[.int .i64 0, .int .i64 0, .int .i64 0, .int .i64 0, .string (⟨#[]⟩ : ByteArray), .string (⟨#[]⟩ : ByteArray)]) ?_ 2 _ rfl; refine pl ?_; refine blk_put (cs := #[.int .i64 0, .int .i64 0, .int .i64 0, .int .i64 0, .string (⟨#[]⟩ : ByteArray), .string (⟨#[]⟩ : ByteArray)]) ?_ 1 _ rfl; refine pl ?_; refine blk_put (cs := #[.int .i64 0, .int .i64 0, .int .i64 0, .int .i64 0, .string (⟨#[]⟩ : ByteArray), .string (⟨#[]⟩ : ByteArray)]) ?_ 0 _ rfl; refine pl ?_; exact BK259.out) Tryd.underlying36 rfl (by kernel_rfl) (.cell gb260 34 #[.int .i64 0, .int .i64 0, .int .i64 0, .int .i64 0] (0, 0) _ rfl (by refine pl ?_; refine blk_put (cs := #[.int .i64 0, .int .i64 0, .int .i64 0, .int .i64 0]) ?_ 3 _ rfl; refine pl ?_; refine blk_put (cs := #[.int .i64 0, .int .i64 0, .int .i64 0, .int .i64 0]) ?_ 2 _ rfl; refine pl ?_; refine blk_put (cs := #[.int .i64 0, .int .i64 0, .int .i64 0, .int .i64 0]) ?_ 1 _ rfl; refine pl ?_; refine blk_put (cs := #[.int .i64 0, .int .i64 0, .int .i64 0, .int .i64 0]) ?_ 0 _ rfl; refine pl ?_; refine blk_far ?_ NB260_259.out _; refine pl ?_; refine blk_far ?_ NB260_259.out _; refine pl ?_; refine blk_far ?_ NB260_259.out _; refine pl ?_; refine blk_far ?_ NB260_259.out _; refine pl ?_; refine blk_far ?_ NB260_259.out _; refine pl ?_; refine blk_far ?_ NB260_259.out _; refine pl ?_; exact BK260.out) Tryd.underlying34 rfl (by kernel_rfl) (.tmp .nil)))) rfl ?_
          exact ⟨by first | rfl | (simp [*] <;> rfl), by repeat (first | (with_reducible first | exact HB.out | apply below_alloc | apply pw_below_drewN | apply below_drew1 | refine below_set ?_ GE257.out | refine below_set ?_ GE258.out | refine below_set ?_ GE259.out | refine below_set ?_ GE260.out | refine below_set ?_ GE267.out | refine below_set ?_ GE276.out) | exact HB.out)⟩
        ·rw [if_neg c96] at H
         exact absurd H (by simp)
       ·rw [if_neg c95] at H
        have c95b0 : decide (a1_0 < 3) = false := decide_eq_false c95
        clear c95
        replace H := Option.bind_eq_some_iff.mp H
        obtain ⟨t280, A1500, H⟩ := H
        have A150 := Aside0.mk A1500; clear A1500
        by_cases c151 : t280 = true
        ·subst c151
         have H1 := H; rw [if_pos rfl] at H1
         clear H; have H := H1; clear H1
         simp only [Option.some.injEq, Prod.mk.injEq] at H
         obtain ⟨rfl, rfl, rfl, rfl, rfl, rfl, rfl, rfl, rfl, rfl, rfl⟩ := H
         have hnb152 := NB258_257.out; have hnc152 := NB257_258.out; have hnb153 := NB258_259.out; have hnc153 := NB259_258.out; have hnb154 := NB258_260.out; have hnc154 := NB260_258.out; have hnb155 := NB258_267.out; have hnc155 := NB267_258.out; have hnb156 := NB258_276.out; have hnc156 := NB276_258.out; obtain ⟨hcz157_0, hcz157_1, hcz157_2, hcz157_3, hcz157_4, hcz157_5⟩ := cl6 BK258.out; obtain ⟨hfz157_0, hfz157_1, hfz157_2, hfz157_3, hfz157_4, hfz157_5⟩ := fl6 BK258.out; have hnb158 := NB276_257.out; have hnc158 := NB257_276.out; have hnb159 := NB276_259.out; have hnc159 := NB259_276.out; have hnb160 := NB276_260.out; have hnc160 := NB260_276.out; have hnb161 := NB276_267.out; have hnc161 := NB267_276.out; obtain ⟨hcz162_0, hcz162_1, hcz162_2, hcz162_3, hcz162_4, hcz162_5⟩ := cl6 BK276.out; obtain ⟨hfz162_0, hfz162_1, hfz162_2, hfz162_3, hfz162_4, hfz162_5⟩ := fl6 BK276.out
         try go_wp2_with (first | ((with_reducible refine gate_callee (f := 43) rfl ?_); refine goesL_ (some 69) rfl rfl Tryd.func43 (by kernel_rfl) rfl #[.agg #[.int .i64 t272, .int .i64 t273, .int .i64 t274, .int .i64 t275, .string x277004_46, .string a1_5]] rfl (by (try simp only [List.map_toArray, List.map_cons, List.map_nil]); first | done | rfl | (simp only [List.length_drop, List.length_take]; rfl)) ?_; (with_reducible refine (weld_Valid.calls kj46 t272 t273 t274 t275 x277004_46 a1_5 true _ ?side1 A150.out).mono ?_); (case side1 => first | (with_reducible exact HG.out) | exact Glob.Globs_below HG.out (by repeat (first | (with_reducible first | exact HB.out | apply below_alloc | apply pw_below_drewN | apply below_drew1 | refine below_set ?_ GE257.out | refine below_set ?_ GE258.out | refine below_set ?_ GE259.out | refine below_set ?_ GE260.out | refine below_set ?_ GE267.out | refine below_set ?_ GE276.out) | exact HB.out))); rintro e w163 ⟨rfl, hb⟩; refine ⟨_, rfl, ?_⟩; have n0_ := Aside0.mk (blk_below (pl BK257.out) hb); have n1_ := Aside0.mk (blk_below (pl BK258.out) hb); have n2_ := Aside0.mk (blk_below (pl BK259.out) hb); have n3_ := Aside0.mk (blk_below (pl BK260.out) hb); have n4_ := Aside0.mk (blk_below (pl BK267.out) hb); have n5_ := Aside0.mk (blk_below (pl BK276.out) hb); have n6_ := Aside0.mk (below_step (by repeat (first | (with_reducible first | exact HB.out | apply below_alloc | apply pw_below_drewN | apply below_drew1 | refine below_set ?_ GE257.out | refine below_set ?_ GE258.out | refine below_set ?_ GE259.out | refine below_set ?_ GE260.out | refine below_set ?_ GE267.out | refine below_set ?_ GE276.out) | exact HB.out)) hb); clear BK257; clear BK258; clear BK259; clear BK260; clear BK267; clear BK276; clear HB; have BK257 := n0_; have BK258 := n1_; have BK259 := n2_; have BK260 := n3_; have BK267 := n4_; have BK276 := n5_; have HB := n6_; clear n0_ n1_ n2_ n3_ n4_ n5_ n6_; (try clear hb); (try clear hb2); (try clear hk); (try clear hi)))
         have n0_ := Aside0.mk (blk_drew BK257.out)
         have n1_ := Aside0.mk (blk_drew BK258.out)
         have n2_ := Aside0.mk (blk_drew BK259.out)
         have n3_ := Aside0.mk (blk_drew BK260.out)
         have n4_ := Aside0.mk (blk_drew BK267.out)
         have n5_ := Aside0.mk (blk_drew BK276.out)
         have n6_ := Aside0.mk (below_drew1 HB.out)
         clear BK257; clear BK258; clear BK259; clear BK260; clear BK267; clear BK276; clear HB; have BK257 := n0_; have BK258 := n1_; have BK259 := n2_; have BK260 := n3_; have BK267 := n4_; have BK276 := n5_; have HB := n6_; clear n0_ n1_ n2_ n3_ n4_ n5_ n6_
         refine start_ (n := 5) (S := fun w' => w'.cell? ⟨gb276, 0, none⟩ = some (.int .i64 t272) ∧ w'.cell? ⟨gb276, 1, none⟩ = some (.int .i64 t273) ∧ w'.cell? ⟨gb276, 2, none⟩ = some (.int .i64 t274) ∧ w'.cell? ⟨gb276, 3, none⟩ = some (.int .i64 t275) ∧ w'.cell? ⟨gb276, 4, none⟩ = some (.string x277004_46) ∧ w'.cell? ⟨gb276, 5, none⟩ = some (.string a1_5) ∧ w'.cell? ⟨gb267, 0, none⟩ = some (.int .i64 t263) ∧ w'.cell? ⟨gb267, 1, none⟩ = some (.int .i64 t264) ∧ w'.cell? ⟨gb267, 2, none⟩ = some (.int .i64 t265) ∧ w'.cell? ⟨gb267, 3, none⟩ = some (.int .i64 t266)) (ds := []) #[false, false, false, false, false] (by kernel_rfl) rfl rfl ⟨(blk_cell BK276.out 0).trans rfl, (blk_cell BK276.out 1).trans rfl, (blk_cell BK276.out 2).trans rfl, (blk_cell BK276.out 3).trans rfl, (blk_cell BK276.out 4).trans rfl, (blk_cell BK276.out 5).trans rfl, (blk_cell BK267.out 0).trans rfl, (blk_cell BK267.out 1).trans rfl, (blk_cell BK267.out 2).trans rfl, (blk_cell BK267.out 3).trans rfl⟩ (fun hHeld => ?_)
         generalize w163.drew = w164 at BK257 BK258 BK259 BK260 BK267 BK276 HB hHeld ⊢
         refine take_ (i := 0) (N := some 73) (v := ?_) (a' := ?_) #[true, false, false, false, false] rfl rfl (by kernel_rfl) (fun _ _ _ h => h) (Or.inl ⟨by rfl, ?_⟩) hHeld ?_ ?_
         rotate_left
         ·rintro w' ⟨s0, s1, s2, s3, s4, s5, s6, s7, s8, s9⟩
          go_simp
          with_reducible rfl
         rotate_left
         ·simp only [Act.put, List.setIfInBounds_toArray, List.set_cons_zero, List.set_cons_succ, i64_w, i32_w]
          rfl
         refine take_ (i := 1) (N := some 74) (v := ?_) (a' := ?_) #[true, true, false, false, false] rfl rfl (by kernel_rfl) (fun _ _ _ h => h) (Or.inl ⟨by rfl, ?_⟩) hHeld ?_ ?_
         rotate_left
         ·rintro w' ⟨s0, s1, s2, s3, s4, s5, s6, s7, s8, s9⟩
          go_simp
          with_reducible rfl
         rotate_left
         ·simp only [Act.put, List.setIfInBounds_toArray, List.set_cons_zero, List.set_cons_succ, i64_w, i32_w]
          rfl
         refine one_ (i := 2) (N := none) #[true, true, true, false, false] rfl rfl (by kernel_rfl) (by decide) (fun K hK => ?_)
         have hs165 : w164.cell? ⟨gb259, 0, none⟩ = some (.int .i64 0) := (blk_cell BK259.out 0).trans rfl
         have hfs165 := blk_frozen BK259.out 0
         have hns165_0 := NB257_259.out; have hns165_1 := NB258_259.out; have hns165_3 := NB260_259.out; have hns165_4 := NB267_259.out; have hns165_5 := NB276_259.out; have hms165_0 := NB259_257.out; have hms165_1 := NB259_258.out; have hms165_3 := NB259_260.out; have hms165_4 := NB259_267.out; have hms165_5 := NB259_276.out
         have hs166 : w164.cell? ⟨gb259, 1, none⟩ = some (.int .i64 0) := (blk_cell BK259.out 1).trans rfl
         have hfs166 := blk_frozen BK259.out 1
         have hns166_0 := NB257_259.out; have hns166_1 := NB258_259.out; have hns166_3 := NB260_259.out; have hns166_4 := NB267_259.out; have hns166_5 := NB276_259.out; have hms166_0 := NB259_257.out; have hms166_1 := NB259_258.out; have hms166_3 := NB259_260.out; have hms166_4 := NB259_267.out; have hms166_5 := NB259_276.out
         have hs167 : w164.cell? ⟨gb259, 2, none⟩ = some (.int .i64 0) := (blk_cell BK259.out 2).trans rfl
         have hfs167 := blk_frozen BK259.out 2
         have hns167_0 := NB257_259.out; have hns167_1 := NB258_259.out; have hns167_3 := NB260_259.out; have hns167_4 := NB267_259.out; have hns167_5 := NB276_259.out; have hms167_0 := NB259_257.out; have hms167_1 := NB259_258.out; have hms167_3 := NB259_260.out; have hms167_4 := NB259_267.out; have hms167_5 := NB259_276.out
         have hs168 : w164.cell? ⟨gb259, 3, none⟩ = some (.int .i64 0) := (blk_cell BK259.out 3).trans rfl
         have hfs168 := blk_frozen BK259.out 3
         have hns168_0 := NB257_259.out; have hns168_1 := NB258_259.out; have hns168_3 := NB260_259.out; have hns168_4 := NB267_259.out; have hns168_5 := NB276_259.out; have hms168_0 := NB259_257.out; have hms168_1 := NB259_258.out; have hms168_3 := NB259_260.out; have hms168_4 := NB259_267.out; have hms168_5 := NB259_276.out
         have hs169 : w164.cell? ⟨gb259, 4, none⟩ = some (.string (⟨#[]⟩ : ByteArray)) := (blk_cell BK259.out 4).trans rfl
         have hfs169 := blk_frozen BK259.out 4
         have hns169_0 := NB257_259.out; have hns169_1 := NB258_259.out; have hns169_3 := NB260_259.out; have hns169_4 := NB267_259.out; have hns169_5 := NB276_259.out; have hms169_0 := NB259_257.out; have hms169_1 := NB259_258.out; have hms169_3 := NB259_260.out; have hms169_4 := NB259_267.out; have hms169_5 := NB259_276.out
         have hs170 : w164.cell? ⟨gb259, 5, none⟩ = some (.string (⟨#[]⟩ : ByteArray)) := (blk_cell BK259.out 5).trans rfl
         have hfs170 := blk_frozen BK259.out 5
         have hns170_0 := NB257_259.out; have hns170_1 := NB258_259.out; have hns170_3 := NB260_259.out; have hns170_4 := NB267_259.out; have hns170_5 := NB276_259.out; have hms170_0 := NB259_257.out; have hms170_1 := NB259_258.out; have hms170_3 := NB259_260.out; have hms170_4 := NB259_267.out; have hms170_5 := NB259_276.out
         refine skip_ (w1 := ?_) (by rfl) rfl ?_ ?_
         rotate_left
         ·go_simp
          rfl
         refine hK.out _ _ ⟨(cf NB276_259 ((cf NB276_259 ((cf NB276_259 ((cf NB276_259 ((cf NB276_259 ((cf NB276_259 (hHeld.1)))))))))))), (cf NB276_259 ((cf NB276_259 ((cf NB276_259 ((cf NB276_259 ((cf NB276_259 ((cf NB276_259 (hHeld.2.1)))))))))))), (cf NB276_259 ((cf NB276_259 ((cf NB276_259 ((cf NB276_259 ((cf NB276_259 ((cf NB276_259 (hHeld.2.2.1)))))))))))), (cf NB276_259 ((cf NB276_259 ((cf NB276_259 ((cf NB276_259 ((cf NB276_259 ((cf NB276_259 (hHeld.2.2.2.1)))))))))))), (cf NB276_259 ((cf NB276_259 ((cf NB276_259 ((cf NB276_259 ((cf NB276_259 ((cf NB276_259 (hHeld.2.2.2.2.1)))))))))))), (cf NB276_259 ((cf NB276_259 ((cf NB276_259 ((cf NB276_259 ((cf NB276_259 ((cf NB276_259 (hHeld.2.2.2.2.2.1)))))))))))), (cf NB267_259 ((cf NB267_259 ((cf NB267_259 ((cf NB267_259 ((cf NB267_259 ((cf NB267_259 (hHeld.2.2.2.2.2.2.1)))))))))))), (cf NB267_259 ((cf NB267_259 ((cf NB267_259 ((cf NB267_259 ((cf NB267_259 ((cf NB267_259 (hHeld.2.2.2.2.2.2.2.1)))))))))))), (cf NB267_259 ((cf NB267_259 ((cf NB267_259 ((cf NB267_259 ((cf NB267_259 ((cf NB267_259 (hHeld.2.2.2.2.2.2.2.2.1)))))))))))), (cf NB267_259 ((cf NB267_259 ((cf NB267_259 ((cf NB267_259 ((cf NB267_259 ((cf NB267_259 (hHeld.2.2.2.2.2.2.2.2.2))))))))))))⟩ (fun hHeld => ?_)
         clear hK K
         refine one_ (i := 3) (N := none) #[true, true, true, true, false] rfl rfl (by kernel_rfl) (by decide) (fun K hK => ?_)
         have hs171 : w164.cell? ⟨gb260, 0, none⟩ = some (.int .i64 0) := (blk_cell BK260.out 0).trans rfl
         have hfs171 := blk_frozen BK260.out 0
         have hns171_0 := NB257_260.out; have hns171_1 := NB258_260.out; have hns171_2 := NB259_260.out; have hns171_4 := NB267_260.out; have hns171_5 := NB276_260.out; have hms171_0 := NB260_257.out; have hms171_1 := NB260_258.out; have hms171_2 := NB260_259.out; have hms171_4 := NB260_267.out; have hms171_5 := NB260_276.out
         have hs172 : w164.cell? ⟨gb260, 1, none⟩ = some (.int .i64 0) := (blk_cell BK260.out 1).trans rfl
         have hfs172 := blk_frozen BK260.out 1
         have hns172_0 := NB257_260.out; have hns172_1 := NB258_260.out; have hns172_2 := NB259_260.out; have hns172_4 := NB267_260.out; have hns172_5 := NB276_260.out; have hms172_0 := NB260_257.out; have hms172_1 := NB260_258.out; have hms172_2 := NB260_259.out; have hms172_4 := NB260_267.out; have hms172_5 := NB260_276.out
         have hs173 : w164.cell? ⟨gb260, 2, none⟩ = some (.int .i64 0) := (blk_cell BK260.out 2).trans rfl
         have hfs173 := blk_frozen BK260.out 2
         have hns173_0 := NB257_260.out; have hns173_1 := NB258_260.out; have hns173_2 := NB259_260.out; have hns173_4 := NB267_260.out; have hns173_5 := NB276_260.out; have hms173_0 := NB260_257.out; have hms173_1 := NB260_258.out; have hms173_2 := NB260_259.out; have hms173_4 := NB260_267.out; have hms173_5 := NB260_276.out
         have hs174 : w164.cell? ⟨gb260, 3, none⟩ = some (.int .i64 0) := (blk_cell BK260.out 3).trans rfl
         have hfs174 := blk_frozen BK260.out 3
         have hns174_0 := NB257_260.out; have hns174_1 := NB258_260.out; have hns174_2 := NB259_260.out; have hns174_4 := NB267_260.out; have hns174_5 := NB276_260.out; have hms174_0 := NB260_257.out; have hms174_1 := NB260_258.out; have hms174_2 := NB260_259.out; have hms174_4 := NB260_267.out; have hms174_5 := NB260_276.out
         refine skip_ (w1 := ?_) (by rfl) rfl ?_ ?_
         rotate_left
         ·go_simp
          rfl
         refine hK.out _ _ ⟨(cf NB276_260 ((cf NB276_260 ((cf NB276_260 ((cf NB276_260 (hHeld.1)))))))), (cf NB276_260 ((cf NB276_260 ((cf NB276_260 ((cf NB276_260 (hHeld.2.1)))))))), (cf NB276_260 ((cf NB276_260 ((cf NB276_260 ((cf NB276_260 (hHeld.2.2.1)))))))), (cf NB276_260 ((cf NB276_260 ((cf NB276_260 ((cf NB276_260 (hHeld.2.2.2.1)))))))), (cf NB276_260 ((cf NB276_260 ((cf NB276_260 ((cf NB276_260 (hHeld.2.2.2.2.1)))))))), (cf NB276_260 ((cf NB276_260 ((cf NB276_260 ((cf NB276_260 (hHeld.2.2.2.2.2.1)))))))), (cf NB267_260 ((cf NB267_260 ((cf NB267_260 ((cf NB267_260 (hHeld.2.2.2.2.2.2.1)))))))), (cf NB267_260 ((cf NB267_260 ((cf NB267_260 ((cf NB267_260 (hHeld.2.2.2.2.2.2.2.1)))))))), (cf NB267_260 ((cf NB267_260 ((cf NB267_260 ((cf NB267_260 (hHeld.2.2.2.2.2.2.2.2.1)))))))), (cf NB267_260 ((cf NB267_260 ((cf NB267_260 ((cf NB267_260 (hHeld.2.2.2.2.2.2.2.2.2))))))))⟩ (fun hHeld => ?_)
         clear hK K
         refine pure_ (i := 4) (N := some 6) (v := ?_) (a' := ?_) #[true, true, true, true, true] rfl rfl (by kernel_rfl) (fun _ _ _ h => h) (Or.inl ⟨by rfl, ?_⟩) ?_ ?_
         rotate_left
         ·intro w'
          go_simp
          with_reducible rfl
         rotate_left
         ·simp only [Act.put, List.setIfInBounds_toArray, List.set_cons_zero, List.set_cons_succ, i64_w, i32_w]
          rfl
         refine done_ (by kernel_rfl) ?_
         try go_wp2
         refine bodyPost_ret (results_list (rs := [.cell 4 36, .cell 5 34, .tmp 6]) rfl (by simp) (.cell gb259 36 #[.int .i64 t272, .int .i64 t273, .int .i64 t274, .int .i64 t275, .string x277004_46, .string a1_5] (0, 0) _ rfl (by refine pl ?_; refine blk_far ?_ NB259_260.out _; refine pl ?_; refine blk_far ?_ NB259_260.out _; refine pl ?_; refine blk_far ?_ NB259_260.out _; refine pl ?_; refine blk_far ?_ NB259_260.out _; refine pl ?_; refine blk_put (cs := #[.int .i64 t272, .int .i64 t273, .int .i64 t274, .int .i64 t275, .string x277004_46, .string (⟨#[]⟩ : ByteArray)]) ?_ 5 _ rfl; refine pl ?_; refine blk_put (cs := #[.int .i64 t272, .int .i64 t273, .int .i64 t274, .int .i64 t275, .string (⟨#[]⟩ : ByteArray), .string (⟨#[]⟩ : ByteArray)]) ?_ 4 _ rfl; refine pl ?_; refine blk_put (cs := #[.int .i64 t272, .int .i64 t273, .int .i64 t274, .int .i64 0, .string (⟨#[]⟩ : ByteArray), .string (⟨#[]⟩ : ByteArray)]) ?_ 3 _ rfl; refine pl ?_; refine blk_put (cs := #[.int .i64 t272, .int .i64 t273, .int .i64 0, .int .i64 0, .string (⟨#[]⟩ : ByteArray), .string (⟨#[]⟩ : ByteArray)]) ?_ 2 _ rfl; refine pl ?_; refine blk_put (cs := #[.int .i64 t272, .int .i64 0, .int .i64 0, .int .i64 0, .string (⟨#[]⟩ : ByteArray), .string (⟨#[]⟩ : ByteArray)]) ?_ 1 _ rfl; refine pl ?_; refine blk_put (cs := #[.int .i64 0, .int .i64 0, .int .i64 0, .int .i64 0, .string (⟨#[]⟩ : ByteArray), .string (⟨#[]⟩ : ByteArray)]) ?_ 0 _ rfl; refine pl ?_; exact BK259.out) Tryd.underlying36 rfl (by kernel_rfl) (.cell gb260 34 #[.int .i64 t263, .int .i64 t264, .int .i64 t265, .int .i64 t266] (0, 0) _ rfl (by refine pl ?_; refine blk_put (cs := #[.int .i64 t263, .int .i64 t264, .int .i64 t265, .int .i64 0]) ?_ 3 _ rfl; refine pl ?_; refine blk_put (cs := #[.int .i64 t263, .int .i64 t264, .int .i64 0, .int .i64 0]) ?_ 2 _ rfl; refine pl ?_; refine blk_put (cs := #[.int .i64 t263, .int .i64 0, .int .i64 0, .int .i64 0]) ?_ 1 _ rfl; refine pl ?_; refine blk_put (cs := #[.int .i64 0, .int .i64 0, .int .i64 0, .int .i64 0]) ?_ 0 _ rfl; refine pl ?_; refine blk_far ?_ NB260_259.out _; refine pl ?_; refine blk_far ?_ NB260_259.out _; refine pl ?_; refine blk_far ?_ NB260_259.out _; refine pl ?_; refine blk_far ?_ NB260_259.out _; refine pl ?_; refine blk_far ?_ NB260_259.out _; refine pl ?_; refine blk_far ?_ NB260_259.out _; refine pl ?_; exact BK260.out) Tryd.underlying34 rfl (by kernel_rfl) (.tmp .nil)))) rfl ?_
         exact ⟨by first | rfl | (simp [*] <;> rfl), by repeat (first | (with_reducible first | exact HB.out | apply below_alloc | apply pw_below_drewN | apply below_drew1 | refine below_set ?_ GE257.out | refine below_set ?_ GE258.out | refine below_set ?_ GE259.out | refine below_set ?_ GE260.out | refine below_set ?_ GE267.out | refine below_set ?_ GE276.out) | exact HB.out)⟩
        ·replace c151 := Bool.eq_false_iff.mpr c151
         subst c151
         have H1 := H; rw [if_neg (show ¬ (false = true) by decide)] at H1
         clear H; have H := H1; clear H1
         simp only [Option.some.injEq, Prod.mk.injEq] at H
         obtain ⟨rfl, rfl, rfl, rfl, rfl, rfl, rfl, rfl, rfl, rfl, rfl⟩ := H
         have hnb175 := NB258_257.out; have hnc175 := NB257_258.out; have hnb176 := NB258_259.out; have hnc176 := NB259_258.out; have hnb177 := NB258_260.out; have hnc177 := NB260_258.out; have hnb178 := NB258_267.out; have hnc178 := NB267_258.out; have hnb179 := NB258_276.out; have hnc179 := NB276_258.out; obtain ⟨hcz180_0, hcz180_1, hcz180_2, hcz180_3, hcz180_4, hcz180_5⟩ := cl6 BK258.out; obtain ⟨hfz180_0, hfz180_1, hfz180_2, hfz180_3, hfz180_4, hfz180_5⟩ := fl6 BK258.out; have hnb181 := NB276_257.out; have hnc181 := NB257_276.out; have hnb182 := NB276_259.out; have hnc182 := NB259_276.out; have hnb183 := NB276_260.out; have hnc183 := NB260_276.out; have hnb184 := NB276_267.out; have hnc184 := NB267_276.out; obtain ⟨hcz185_0, hcz185_1, hcz185_2, hcz185_3, hcz185_4, hcz185_5⟩ := cl6 BK276.out; obtain ⟨hfz185_0, hfz185_1, hfz185_2, hfz185_3, hfz185_4, hfz185_5⟩ := fl6 BK276.out
         go_wp2_with (first | ((with_reducible refine gate_callee (f := 43) rfl ?_); refine goesL_ (some 69) rfl rfl Tryd.func43 (by kernel_rfl) rfl #[.agg #[.int .i64 t272, .int .i64 t273, .int .i64 t274, .int .i64 t275, .string x277004_46, .string a1_5]] rfl (by (try simp only [List.map_toArray, List.map_cons, List.map_nil]); first | done | rfl | (simp only [List.length_drop, List.length_take]; rfl)) ?_; (with_reducible refine (weld_Valid.calls kj46 t272 t273 t274 t275 x277004_46 a1_5 false _ ?side1 A150.out).mono ?_); (case side1 => first | (with_reducible exact HG.out) | exact Glob.Globs_below HG.out (by repeat (first | (with_reducible first | exact HB.out | apply below_alloc | apply pw_below_drewN | apply below_drew1 | refine below_set ?_ GE257.out | refine below_set ?_ GE258.out | refine below_set ?_ GE259.out | refine below_set ?_ GE260.out | refine below_set ?_ GE267.out | refine below_set ?_ GE276.out) | exact HB.out))); rintro e w186 ⟨rfl, hb⟩; refine ⟨_, rfl, ?_⟩; have n0_ := Aside0.mk (blk_below (pl BK257.out) hb); have n1_ := Aside0.mk (blk_below (pl BK258.out) hb); have n2_ := Aside0.mk (blk_below (pl BK259.out) hb); have n3_ := Aside0.mk (blk_below (pl BK260.out) hb); have n4_ := Aside0.mk (blk_below (pl BK267.out) hb); have n5_ := Aside0.mk (blk_below (pl BK276.out) hb); have n6_ := Aside0.mk (below_step (by repeat (first | (with_reducible first | exact HB.out | apply below_alloc | apply pw_below_drewN | apply below_drew1 | refine below_set ?_ GE257.out | refine below_set ?_ GE258.out | refine below_set ?_ GE259.out | refine below_set ?_ GE260.out | refine below_set ?_ GE267.out | refine below_set ?_ GE276.out) | exact HB.out)) hb); clear BK257; clear BK258; clear BK259; clear BK260; clear BK267; clear BK276; clear HB; have BK257 := n0_; have BK258 := n1_; have BK259 := n2_; have BK260 := n3_; have BK267 := n4_; have BK276 := n5_; have HB := n6_; clear n0_ n1_ n2_ n3_ n4_ n5_ n6_; (try clear hb); (try clear hb2); (try clear hk); (try clear hi); have hnb187 := NB259_257.out; have hnc187 := NB257_259.out; have hnb188 := NB259_260.out; have hnc188 := NB260_259.out; have hnb189 := NB259_267.out; have hnc189 := NB267_259.out; obtain ⟨hcz190_0, hcz190_1, hcz190_2, hcz190_3, hcz190_4, hcz190_5⟩ := cl6 BK259.out; obtain ⟨hfz190_0, hfz190_1, hfz190_2, hfz190_3, hfz190_4, hfz190_5⟩ := fl6 BK259.out; have hnb191 := NB260_257.out; have hnc191 := NB257_260.out; have hnb192 := NB260_267.out; have hnc192 := NB267_260.out; obtain ⟨hcz193_0, hcz193_1, hcz193_2, hcz193_3⟩ := cl4 BK260.out; obtain ⟨hfz193_0, hfz193_1, hfz193_2, hfz193_3⟩ := fl4 BK260.out))
         refine bodyPost_ret (results_list (rs := [.cell 4 36, .cell 5 34, .tmp 6]) rfl (by simp) (.cell gb259 36 #[.int .i64 0, .int .i64 0, .int .i64 0, .int .i64 0, .string (⟨#[]⟩ : ByteArray), .string (⟨#[]⟩ : ByteArray)] (0, 0) _ rfl (by refine pl ?_; refine blk_far ?_ NB259_260.out _; refine pl ?_; refine blk_far ?_ NB259_260.out _; refine pl ?_; refine blk_far ?_ NB259_260.out _; refine pl ?_; refine blk_far ?_ NB259_260.out _; refine pl ?_; refine blk_put (cs := #[.int .i64 0, .int .i64 0, .int .i64 0, .int .i64 0, .string (⟨#[]⟩ : ByteArray), .string (⟨#[]⟩ : ByteArray)]) ?_ 5 _ rfl; refine pl ?_; refine blk_put (cs := #[.int .i64 0, .int .i64 0, .int .i64 0, .int .i64 0, .string (⟨#[]⟩ : ByteArray), .string (⟨#[]⟩ : ByteArray)]) ?_ 4 _ rfl; refine pl ?_; refine blk_put (cs := #[.int .i64 0, .int .i64 0, .int .i64 0, .int .i64 0, .string (⟨#[]⟩ : ByteArray), .string (⟨#[]⟩ : ByteArray)]) ?_ 3 _ rfl; refine pl ?_; refine blk_put (cs := #[.int .i64 0, .int .i64 0, .int .i64 0, .int .i64 0, .string (⟨#[]⟩ : ByteArray), .string (⟨#[]⟩ : ByteArray)]) ?_ 2 _ rfl; refine pl ?_; refine blk_put (cs := #[.int .i64 0, .int .i64 0, .int .i64 0, .int .i64 0, .string (⟨#[]⟩ : ByteArray), .string (⟨#[]⟩ : ByteArray)]) ?_ 1 _ rfl; refine pl ?_; refine blk_put (cs := #[.int .i64 0, .int .i64 0, .int .i64 0, .int .i64 0, .string (⟨#[]⟩ : ByteArray), .string (⟨#[]⟩ : ByteArray)]) ?_ 0 _ rfl; refine pl ?_; exact BK259.out) Tryd.underlying36 rfl (by kernel_rfl) (.cell gb260 34 #[.int .i64 0, .int .i64 0, .int .i64 0, .int .i64 0] (0, 0) _ rfl (by refine pl ?_; refine blk_put (cs := #[.int .i64 0, .int .i64 0, .int .i64 0, .int .i64 0]) ?_ 3 _ rfl; refine pl ?_; refine blk_put (cs := #[.int .i64 0, .int .i64 0, .int .i64 0, .int .i64 0]) ?_ 2 _ rfl; refine pl ?_; refine blk_put (cs := #[.int .i64 0, .int .i64 0, .int .i64 0, .int .i64 0]) ?_ 1 _ rfl; refine pl ?_; refine blk_put (cs := #[.int .i64 0, .int .i64 0, .int .i64 0, .int .i64 0]) ?_ 0 _ rfl; refine pl ?_; refine blk_far ?_ NB260_259.out _; refine pl ?_; refine blk_far ?_ NB260_259.out _; refine pl ?_; refine blk_far ?_ NB260_259.out _; refine pl ?_; refine blk_far ?_ NB260_259.out _; refine pl ?_; refine blk_far ?_ NB260_259.out _; refine pl ?_; refine blk_far ?_ NB260_259.out _; refine pl ?_; exact BK260.out) Tryd.underlying34 rfl (by kernel_rfl) (.tmp .nil)))) rfl ?_
         exact ⟨by first | rfl | (simp [*] <;> rfl), by repeat (first | (with_reducible first | exact HB.out | apply below_alloc | apply pw_below_drewN | apply below_drew1 | refine below_set ?_ GE257.out | refine below_set ?_ GE258.out | refine below_set ?_ GE259.out | refine below_set ?_ GE260.out | refine below_set ?_ GE267.out | refine below_set ?_ GE276.out) | exact HB.out)⟩
end Go.Proofs.YteoonhidjldnfaaDoor.Pr
