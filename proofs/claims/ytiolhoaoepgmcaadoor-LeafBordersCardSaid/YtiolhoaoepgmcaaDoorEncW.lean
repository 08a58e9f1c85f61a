/- Whole encodings: their lengths by the table, and that they are the encodings of their values. No program in sight. Conditions: bytes. -/
import Derived.Test.YtiolhoaoepgmcaaDoorDec
namespace Go.Proofs.YtiolhoaoepgmcaaDoor.Math
open Go.RowKit
set_option linter.unusedVariables false
set_option linter.unusedSimpArgs false
theorem whole_lg (l : List Int) (h : Byt l) : whole l = true ↔ l ≠ [] ∧ lg l = l.length := by
  match l, h with
  | [], _ => simp [whole]
  | [x0], h =>
    have b0 := h x0 (by simp)
    simp only [whole, lg, List.length_cons, List.length_nil, decide_eq_true_eq, ne_eq, reduceCtorEq, not_false_eq_true, true_and]
    have := lgT_cases x0 (List.getD [] 0 (-1)) (List.getD [] 1 (-1)) (List.getD [] 2 (-1))
    constructor
    · intro hn
      unfold lgT; rw [if_pos (by unfold need at hn; (repeat' split at hn) <;> omega)]
    · intro hn
      rw [need_1 (by omega)]
  | [x0, x1], h =>
    simp only [whole, lg, List.length_cons, List.length_nil, Bool.and_eq_true, decide_eq_true_eq, ne_eq, reduceCtorEq, not_false_eq_true, true_and, List.getD_cons_zero, List.getD_cons_succ, sec_iff]
    have := lgT_cases x0 x1 (List.getD [] 0 (-1)) (List.getD [] 1 (-1))
    constructor
    · rintro ⟨hn, h1, h2⟩
      have hx : 194 ≤ x0 ∧ x0 < 224 := by unfold need at hn; (repeat' split at hn) <;> omega
      unfold lgT; rw [if_neg (by omega), if_pos (by omega)]
    · intro hn
      rw [need_2 (by omega) (by omega)]
      omega
  | [x0, x1, x2], h =>
    simp only [whole, lg, List.length_cons, List.length_nil, Bool.and_eq_true, decide_eq_true_eq, ne_eq, reduceCtorEq, not_false_eq_true, true_and, List.getD_cons_zero, List.getD_cons_succ, sec_iff, tl_iff]
    constructor
    · rintro ⟨hn, ⟨h1, h2⟩, h3⟩
      have hx : 224 ≤ x0 ∧ x0 < 240 := by unfold need at hn; (repeat' split at hn) <;> omega
      unfold lgT; rw [if_neg (by omega), if_neg (by omega), if_pos (by omega)]
    · intro hn
      unfold lgT at hn
      split at hn
      · omega
      · split at hn
        · omega
        · split at hn
          · rw [need_3 (by omega) (by omega)]; omega
          · split at hn <;> omega
  | [x0, x1, x2, x3], h =>
    simp only [whole, lg, List.length_cons, List.length_nil, Bool.and_eq_true, decide_eq_true_eq, ne_eq, reduceCtorEq, not_false_eq_true, true_and, List.getD_cons_zero, List.getD_cons_succ, sec_iff, tl_iff]
    constructor
    · rintro ⟨hn, ⟨h1, h2⟩, h3, h4⟩
      have hx : 240 ≤ x0 ∧ x0 < 245 := by unfold need at hn; (repeat' split at hn) <;> omega
      unfold lgT; rw [if_neg (by omega), if_neg (by omega), if_neg (by omega), if_pos (by omega)]
    · intro hn
      unfold lgT at hn
      split at hn
      · omega
      · split at hn
        · omega
        · split at hn
          · omega
          · split at hn
            · rw [need_4 (by omega) (by omega)]; omega
            · omega
  | x0 :: x1 :: x2 :: x3 :: x4 :: r, _ =>
    simp only [whole, Bool.false_eq_true, false_iff]
    rintro ⟨_, hn⟩
    have := lg_le (x0 :: x1 :: x2 :: x3 :: x4 :: r)
    rw [hn] at this
    simp at this
/-- The value's rune, where it is one. -/
theorem enc_whole (l : List Int) (hb : Byt l) (h : whole l = true) : enc (num l) = l := by
  match l, hb, h with
  | [x0], hb, h =>
    have b0 := hb x0 (by simp)
    simp only [whole, decide_eq_true_eq] at h
    have hx : x0 < 128 := by unfold need at h; (repeat' split at h) <;> omega
    rw [show num [x0] = x0 from rfl]
    unfold enc isR enc0
    rw [if_pos (by simp; omega), if_pos hx]
  | [x0, x1], hb, h =>
    simp only [whole, Bool.and_eq_true, decide_eq_true_eq, sec_iff] at h
    have hx : 194 ≤ x0 ∧ x0 < 224 := by obtain ⟨hn, _⟩ := h; unfold need at hn; (repeat' split at hn) <;> omega
    rw [show num [x0, x1] = x0 % 32 * 64 + x1 % 64 from rfl]
    unfold enc isR enc0
    rw [if_pos (by simp; omega), if_neg (by omega), if_pos (by omega)]
    have e0 : 192 + (x0 % 32 * 64 + x1 % 64) / 64 = x0 := by omega
    have e1 : 128 + (x0 % 32 * 64 + x1 % 64) % 64 = x1 := by omega
    rw [e0, e1]
  | [x0, x1, x2], hb, h =>
    simp only [whole, Bool.and_eq_true, decide_eq_true_eq, sec_iff, tl_iff] at h
    have hx : 224 ≤ x0 ∧ x0 < 240 := by obtain ⟨hn, _⟩ := h; unfold need at hn; (repeat' split at hn) <;> omega
    obtain ⟨_, ⟨_, h1, h2, s1, s2, s3, s4⟩, h3, h4⟩ := h
    rw [show num [x0, x1, x2] = (x0 % 16 * 64 + x1 % 64) * 64 + x2 % 64 from rfl]
    unfold enc isR enc0
    rw [if_pos (by simp; omega), if_neg (by omega), if_neg (by omega), if_pos (by omega)]
    have e0 : 224 + ((x0 % 16 * 64 + x1 % 64) * 64 + x2 % 64) / 4096 = x0 := by omega
    have e1 : 128 + ((x0 % 16 * 64 + x1 % 64) * 64 + x2 % 64) / 64 % 64 = x1 := by omega
    have e2 : 128 + ((x0 % 16 * 64 + x1 % 64) * 64 + x2 % 64) % 64 = x2 := by omega
    rw [e0, e1, e2]
  | [x0, x1, x2, x3], hb, h =>
    simp only [whole, Bool.and_eq_true, decide_eq_true_eq, sec_iff, tl_iff] at h
    have hx : 240 ≤ x0 ∧ x0 < 245 := by obtain ⟨hn, _⟩ := h; unfold need at hn; (repeat' split at hn) <;> omega
    obtain ⟨_, ⟨_, h1, h2, s1, s2, s3, s4⟩, ⟨h3, h4⟩, h5, h6⟩ := h
    rw [show num [x0, x1, x2, x3] = ((x0 % 8 * 64 + x1 % 64) * 64 + x2 % 64) * 64 + x3 % 64 from rfl]
    unfold enc isR enc0
    rw [if_pos (by simp; omega), if_neg (by omega), if_neg (by omega), if_neg (by omega)]
    have e0 : 240 + (((x0 % 8 * 64 + x1 % 64) * 64 + x2 % 64) * 64 + x3 % 64) / 262144 = x0 := by omega
    have e1 : 128 + (((x0 % 8 * 64 + x1 % 64) * 64 + x2 % 64) * 64 + x3 % 64) / 4096 % 64 = x1 := by omega
    have e2 : 128 + (((x0 % 8 * 64 + x1 % 64) * 64 + x2 % 64) * 64 + x3 % 64) / 64 % 64 = x2 := by omega
    have e3 : 128 + (((x0 % 8 * 64 + x1 % 64) * 64 + x2 % 64) * 64 + x3 % 64) % 64 = x3 := by omega
    rw [e0, e1, e2, e3]
end Go.Proofs.YtiolhoaoepgmcaaDoor.Math
