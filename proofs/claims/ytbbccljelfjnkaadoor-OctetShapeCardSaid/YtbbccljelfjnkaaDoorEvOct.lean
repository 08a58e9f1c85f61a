/- What the printed functions of octet (and of its reference) answer, in the plain words of Math. Conditions: bytes lie in 0 .. 255, rounds are enough. -/
import Derived.Test.YtbbccljelfjnkaaDoorMath
import Derived.Test.YtbbccljelfjnkaaDoorFValue
import Derived.Test.YtbbccljelfjnkaaDoorFNeed
import Derived.Test.YtbbccljelfjnkaaDoorPr2
import Derived.Test.YtbbccljelfjnkaaDoorPr4
namespace Go.Proofs.YtbbccljelfjnkaaDoor.Ev
open Go.RowKit Go.Proofs.YtbbccljelfjnkaaDoor.Pr Go.Proofs.YtbbccljelfjnkaaDoor.Math Go.Proofs.YtbbccljelfjnkaaDoorW.PrintWords Go.Proofs.YtbbccljelfjnkaaDoorW.PrintLast
set_option linter.unusedVariables false
set_option linter.unusedSimpArgs false

theorem o_Class (b : Int) (h : 0 ≤ b ∧ b ≤ 255) : octet_Class.f b = some (cls b) := by unfold octet_Class.f; rw [if_pos h]; rfl
theorem o_Need (b : Int) (h : 0 ≤ b ∧ b ≤ 255) : octet_Need.f b = some (need b) := by unfold octet_Need.f; rw [if_pos h]; rfl
theorem r_Class (b : Int) : galleyref01_Class.f b = some (cls b) := by
  unfold galleyref01_Class.f cls; (repeat' split) <;> rfl
theorem r_Need (b : Int) : galleyref01_Need.f b = some (need b) := by
  unfold galleyref01_Need.f
  rw [r_Class]
  simp only [Option.bind_some]
  unfold cls need
  (repeat' split) <;> first | rfl | omega
theorem o_second (a : Int) (h : 0 ≤ a ∧ a ≤ 255) : octet_second.f a = some (if a = 224 then (160, 191) else if a = 237 then (128, 159) else if a = 240 then (144, 191) else if a = 244 then (128, 143) else if need a > 1 then (128, 191) else (1, 0)) := by
  unfold octet_second.f
  rw [o_Need a h]
  simp only [Option.bind_some]
  (repeat' split) <;> rfl
theorem o_Second (a b : Int) (h : 0 ≤ a ∧ a ≤ 255) : octet_Second.f a b = some (sec a b) := by
  unfold octet_Second.f
  rw [o_second a h]
  simp only [Option.bind_some]
  unfold sec
  (repeat' split) <;> simp_all <;> omega
theorem r_Second (k : Nat) (a b : Int) (hb : 0 ≤ b ∧ b ≤ 255) : galleyref01_Second.f (k + 1) a b = some (sec a b) := by
  unfold galleyref01_Second.f
  rw [r_Need, r_Class]
  simp only [Option.bind_some, galleyref01_Second.j0]
  have h2 : (cls b != 2) = true ↔ ¬ (128 ≤ b ∧ b ≤ 191) := by rw [bne_iff_ne, ne_eq, cls_two b hb.1 hb.2]
  by_cases ht : 128 ≤ b ∧ b ≤ 191
  · have h3 : (cls b != 2) = false := by rw [Bool.eq_false_iff]; intro h; exact (h2.1 h) ht
    rw [h3]
    simp only [Bool.false_eq_true, if_false, if_true]
    unfold sec
    by_cases hn : need a < 2
    · rw [if_pos hn]
      have ha : a ≠ 224 ∧ a ≠ 237 ∧ a ≠ 240 ∧ a ≠ 244 := by unfold need at hn; refine ⟨?_, ?_, ?_, ?_⟩ <;> rintro rfl <;> simp at hn
      rw [if_neg ha.1, if_neg ha.2.1, if_neg ha.2.2.1, if_neg ha.2.2.2, if_neg (by omega)]
    · rw [if_neg hn]
      (repeat' split) <;> simp_all <;> omega
  · rw [h2.2 ht]
    simp only [if_true]
    have : sec a b = false := by rw [Bool.eq_false_iff]; intro h; exact ht (sec_tail h)
    rw [this]
    split <;> rfl

theorem o_Whole (k : Nat) (l : List Int) (h : Byt l) : octet_Whole.f (k + 9) l = some (whole l) := by
  unfold octet_Whole.f
  match l, h with
  | [], _ => simp [octet_Whole.j0, whole]
  | [x0], h =>
    have b0 := h x0 (by simp)
    simp only [rd, List.length_cons, List.length_nil, Int.toNat_zero, List.getD_cons_zero]
    rw [if_neg (by simp), if_pos (by simp), o_Need x0 b0]
    simp only [Option.bind_some, octet_Whole.j0, drop1, whole]
    by_cases hn : need x0 = 1
    · simp [hn, octet_Whole.l0]
    · simp [hn]
  | [x0, x1], h =>
    have b0 := h x0 (by simp)
    have b1 := h x1 (by simp)
    simp only [rd, List.length_cons, List.length_nil, Int.toNat_zero, List.getD_cons_zero]
    rw [if_neg (by simp), if_pos (by simp), o_Need x0 b0]
    simp only [Option.bind_some, octet_Whole.j0, drop1, whole]
    by_cases hn : need x0 = 2
    · have st := @sec_tail x0 x1
      simp [hn, octet_Whole.l0, rd, o_Second x0 x1 b0, o_Class x1 b1, cls_two x1 b1.1 b1.2, wrap64_in', tl]
      (repeat' split) <;> simp_all
    · simp [hn]
  | [x0, x1, x2], h =>
    have b0 := h x0 (by simp)
    have b1 := h x1 (by simp)
    have b2 := h x2 (by simp)
    simp only [rd, List.length_cons, List.length_nil, Int.toNat_zero, List.getD_cons_zero]
    rw [if_neg (by simp), if_pos (by simp), o_Need x0 b0]
    simp only [Option.bind_some, octet_Whole.j0, drop1, whole]
    by_cases hn : need x0 = 3
    · have st := @sec_tail x0 x1
      simp [hn, octet_Whole.l0, rd, o_Second x0 x1 b0, o_Class x1 b1, cls_two x1 b1.1 b1.2, o_Class x2 b2, cls_two x2 b2.1 b2.2, wrap64_in', tl]
      (repeat' split) <;> simp_all
    · simp [hn]
  | [x0, x1, x2, x3], h =>
    have b0 := h x0 (by simp)
    have b1 := h x1 (by simp)
    have b2 := h x2 (by simp)
    have b3 := h x3 (by simp)
    simp only [rd, List.length_cons, List.length_nil, Int.toNat_zero, List.getD_cons_zero]
    rw [if_neg (by simp), if_pos (by simp), o_Need x0 b0]
    simp only [Option.bind_some, octet_Whole.j0, drop1, whole]
    by_cases hn : need x0 = 4
    · have st := @sec_tail x0 x1
      simp [hn, octet_Whole.l0, rd, o_Second x0 x1 b0, o_Class x1 b1, cls_two x1 b1.1 b1.2, o_Class x2 b2, cls_two x2 b2.1 b2.2, o_Class x3 b3, cls_two x3 b3.1 b3.2, wrap64_in', tl]
      cases hs : sec x0 x1 <;> by_cases h2 : 128 ≤ x2 <;> by_cases h2' : x2 ≤ 191 <;> by_cases h3 : 128 ≤ x3 <;> by_cases h3' : x3 ≤ 191 <;> simp_all <;> split <;> simp_all <;> omega
    · simp [hn]
  | x0 :: x1 :: x2 :: x3 :: x4 :: r, h =>
    have b0 := h x0 (by simp)
    have hl := need_le x0
    simp only [rd, List.length_cons, Int.toNat_zero, List.getD_cons_zero]
    rw [if_neg (by omega), if_pos (by omega), o_Need x0 b0]
    simp only [Option.bind_some, octet_Whole.j0, whole]
    rw [if_pos (by rw [bne_iff_ne]; omega)]

theorem r_Begins0 (k : Nat) (l : List Int) (h : Byt l) (hn : l ≠ []) (hl : need (rd l 0) < l.length) : galleyref01_Begins.f (k + 9) l = some false := by
  unfold galleyref01_Begins.f
  have hp : 0 < l.length := List.length_pos_iff.2 hn
  rw [if_neg (by omega), if_pos (by omega), r_Need]
  simp only [Option.bind_some, galleyref01_Begins.j0]
  rw [if_pos (by simpa using hl)]

theorem r_Whole (k : Nat) (l : List Int) (h : Byt l) : galleyref01_Whole.f (k + 9) l = some (whole l) := by
  unfold galleyref01_Whole.f
  match l, h with
  | [], _ => simp [galleyref01_Begins.f, galleyref01_Begins.j0, whole]
  | [x0], h =>
    have b0 := h x0 (by simp)
    have hl := need_le x0
    by_cases hn : need x0 < 1
    · rw [r_Begins0 k _ h (by simp) (by simpa [rd] using hn)]
      simp [whole]
      intro h1
      omega
    · unfold galleyref01_Begins.f
      simp only [rd, List.length_cons, List.length_nil, Int.toNat_zero, List.getD_cons_zero]
      rw [if_neg (by simp), if_pos (by simp), r_Need]
      simp only [Option.bind_some, galleyref01_Begins.j0]
      rw [if_neg (by simp; omega)]
      simp [galleyref01_Begins.j1, galleyref01_Begins.l0, rd, whole, r_Need, wrap64_in', tl]
      rw [Bool.eq_iff_iff]; simp; omega
  | [x0, x1], h =>
    have b0 := h x0 (by simp)
    have b1 := h x1 (by simp)
    have hl := need_le x0
    by_cases hn : need x0 < 2
    · rw [r_Begins0 k _ h (by simp) (by simpa [rd] using hn)]
      simp [whole]
      intro h1
      omega
    · unfold galleyref01_Begins.f
      simp only [rd, List.length_cons, List.length_nil, Int.toNat_zero, List.getD_cons_zero]
      rw [if_neg (by simp), if_pos (by simp), r_Need]
      simp only [Option.bind_some, galleyref01_Begins.j0]
      rw [if_neg (by simp; omega)]
      have st := @sec_tail x0 x1
      simp [galleyref01_Begins.j1, galleyref01_Begins.l0, rd, whole, r_Second _ x0 x1 b1, r_Need, wrap64_in', tl]
      have he : (2 == need x0) = decide (need x0 = 2) := by rw [Bool.eq_iff_iff]; simp; omega
      cases hs : sec x0 x1 <;> simp [he]
  | [x0, x1, x2], h =>
    have b0 := h x0 (by simp)
    have b1 := h x1 (by simp)
    have b2 := h x2 (by simp)
    have hl := need_le x0
    by_cases hn : need x0 < 3
    · rw [r_Begins0 k _ h (by simp) (by simpa [rd] using hn)]
      simp [whole]
      intro h1
      omega
    · unfold galleyref01_Begins.f
      simp only [rd, List.length_cons, List.length_nil, Int.toNat_zero, List.getD_cons_zero]
      rw [if_neg (by simp), if_pos (by simp), r_Need]
      simp only [Option.bind_some, galleyref01_Begins.j0]
      rw [if_neg (by simp; omega)]
      have st := @sec_tail x0 x1
      simp [galleyref01_Begins.j1, galleyref01_Begins.l0, rd, whole, r_Second _ x0 x1 b1, r_Class x2, cls_two x2 b2.1 b2.2, r_Need, wrap64_in', tl]
      have he : (3 == need x0) = decide (need x0 = 3) := by rw [Bool.eq_iff_iff]; simp; omega
      cases hs : sec x0 x1 <;> by_cases h2 : 128 ≤ x2 ∧ x2 ≤ 191 <;> simp [he, h2]
      all_goals (intros; omega)
  | [x0, x1, x2, x3], h =>
    have b0 := h x0 (by simp)
    have b1 := h x1 (by simp)
    have b2 := h x2 (by simp)
    have b3 := h x3 (by simp)
    have hl := need_le x0
    by_cases hn : need x0 < 4
    · rw [r_Begins0 k _ h (by simp) (by simpa [rd] using hn)]
      simp [whole]
      intro h1
      omega
    · unfold galleyref01_Begins.f
      simp only [rd, List.length_cons, List.length_nil, Int.toNat_zero, List.getD_cons_zero]
      rw [if_neg (by simp), if_pos (by simp), r_Need]
      simp only [Option.bind_some, galleyref01_Begins.j0]
      rw [if_neg (by simp; omega)]
      have st := @sec_tail x0 x1
      simp [galleyref01_Begins.j1, galleyref01_Begins.l0, rd, whole, r_Second _ x0 x1 b1, r_Class x2, cls_two x2 b2.1 b2.2, r_Class x3, cls_two x3 b3.1 b3.2, r_Need, wrap64_in', tl]
      have he : (4 == need x0) = decide (need x0 = 4) := by rw [Bool.eq_iff_iff]; simp; omega
      cases hs : sec x0 x1 <;> by_cases h2 : 128 ≤ x2 ∧ x2 ≤ 191 <;> by_cases h3 : 128 ≤ x3 ∧ x3 ≤ 191 <;> simp [he, h2, h3]
      all_goals (intros; omega)
  | x0 :: x1 :: x2 :: x3 :: x4 :: r, h =>
    have hl := need_le x0
    rw [r_Begins0 k _ h (by simp) (by simp only [rd, List.length_cons, Int.toNat_zero, List.getD_cons_zero]; omega)]
    simp [whole]

/-! ### Value -/
theorem u8_and127 {x : Int} (h₀ : 0 ≤ x) (h₁ : x < 256) : bits .and .u8 x 127 = x % 128 := bits_mask .u8 8 (by decide) wraps_u8 7 (by decide) x h₀ h₁
theorem head_eq {x m n : Int} (h : bits .and .u8 x m = n) (h0 : 0 ≤ n) (h1 : n < 256) : headV x m = n := by unfold headV; rw [h]; exact wrap32_in' (by omega) (by omega)
theorem step_eq {z c : Int} (h0 : 0 ≤ z) (h1 : z < 32768) (hc : 0 ≤ c ∧ c ≤ 255) : stepV z c = z * 64 + c % 64 := by
  unfold stepV
  rw [u8_and63 _ hc.1 (by omega), wrap32_in' (by omega) (by omega), wrap32_in' (by omega) (by omega), i32_or6 _ _ (by omega) (by omega) (by omega) (by omega) (by omega)]
theorem valL_eq (l : List Int) (h : Byt l) (hw : whole l = true) : valL l = some (num l) := by
  match l, h, hw with
  | [], _, hw => simp [whole] at hw
  | [x0], h, hw =>
    have b0 := h x0 (by simp)
    have hn : need x0 = 1 := by simpa [whole] using hw
    have : x0 < 128 := by unfold need at hn; (repeat' split at hn) <;> omega
    simp only [valL, num]
    rw [head_eq (u8_and127 b0.1 (by omega)) (by omega) (by omega)]
    congr 1
    omega
  | [x0, x1], h, hw =>
    have b0 := h x0 (by simp)
    have b1 := h x1 (by simp)
    simp only [valL, num]
    rw [head_eq (u8_and31 _ b0.1 (by omega)) (by omega) (by omega), step_eq (by omega) (by omega) b1]
  | [x0, x1, x2], h, hw =>
    have b0 := h x0 (by simp)
    have b1 := h x1 (by simp)
    have b2 := h x2 (by simp)
    simp only [valL, num]
    rw [head_eq (u8_and15 _ b0.1 (by omega)) (by omega) (by omega), step_eq (by omega) (by omega) b1, step_eq (by omega) (by omega) b2]
  | [x0, x1, x2, x3], h, hw =>
    have b0 := h x0 (by simp)
    have b1 := h x1 (by simp)
    have b2 := h x2 (by simp)
    have b3 := h x3 (by simp)
    simp only [valL, num]
    rw [head_eq (u8_and7 _ b0.1 (by omega)) (by omega) (by omega), step_eq (by omega) (by omega) b1, step_eq (by omega) (by omega) b2, step_eq (by omega) (by omega) b3]
  | _ :: _ :: _ :: _ :: _ :: _, _, hw => simp [whole] at hw
theorem o_Value (k : Nat) (l : List Int) (h : Byt l) : octet_Value.f (k + 9) l = some (val l) := by
  unfold octet_Value.f val
  rw [o_Whole k l h]
  simp only [Option.bind_some]
  split
  · rename_i hw
    exact valL_eq l h hw
  · rfl
theorem num_range (l : List Int) (h : Byt l) (hw : whole l = true) : 0 ≤ num l ∧ num l < 2097152 := by
  match l, h, hw with
  | [], _, hw => simp [whole] at hw
  | [x0], h, hw => have b0 := h x0 (by simp); simp only [num]; omega
  | [x0, x1], h, hw => simp only [num]; omega
  | [x0, x1, x2], h, hw => simp only [num]; omega
  | [x0, x1, x2, x3], h, hw => simp only [num]; omega
  | _ :: _ :: _ :: _ :: _ :: _, _, hw => simp [whole] at hw
theorem val_range (l : List Int) (h : Byt l) : -1 ≤ val l ∧ val l < 2097152 := by
  unfold val
  split
  · rename_i hw
    have := num_range l h hw
    omega
  · omega
theorem tm {a b : Int} (h : 0 ≤ a) : Int.tmod a b = a % b := Int.tmod_eq_emod_of_nonneg h
theorem td {a b : Int} (h : 0 ≤ a) : Int.tdiv a b = a / b := Int.tdiv_eq_ediv_of_nonneg h
theorem r_Value (k : Nat) (l : List Int) (h : Byt l) : galleyref01_Value.f (k + 9) l = some (val l) := by
  unfold galleyref01_Value.f val
  rw [r_Whole k l h]
  simp only [Option.bind_some]
  split
  · rename_i hw
    have hr := num_range l h hw
    match l, h, hw, hr with
    | [], _, hw, _ => simp [whole] at hw
    | [x0], h, hw, hr =>
      have b0 := h x0 (by simp)
      simp only [num] at hr ⊢
      simp only [rd, List.length_cons, List.length_nil, Int.toNat_zero, List.getD_cons_zero]
      rw [if_pos (by omega)]
      rw [if_neg (by omega), if_neg (by omega), if_neg (by omega)]
      have e0 : wrap64 x0 = x0 := by rw [wrap64_in' (by omega) (by omega)]
      simp [galleyref01_Value.j0, galleyref01_Value.l0, rd, e0, wrap64_in', wrap32_in' (n := x0) (by omega) (by omega)]
    | [x0, x1], h, hw, hr =>
      have b0 := h x0 (by simp)
      have b1 := h x1 (by simp)
      simp only [num] at hr ⊢
      simp only [rd, List.length_cons, List.length_nil, Int.toNat_zero, List.getD_cons_zero]
      rw [if_pos (by omega)]
      rw [if_pos (by omega)]
      have e0 : Int.tmod (wrap64 x0) 32 = x0 % 32 := by rw [wrap64_in' (by omega) (by omega), tm (by omega)]
      have e1 : wrap64 (wrap64 ((x0 % 32) * 64) + Int.tmod (wrap64 x1) 64) = (x0 % 32) * 64 + x1 % 64 := by rw [wrap64_in' (n := x1) (by omega) (by omega), tm (by omega), wrap64_in' (n := (x0 % 32) * 64) (by omega) (by omega), wrap64_in' (by omega) (by omega)]
      simp [galleyref01_Value.j0, galleyref01_Value.l0, rd, e0, e1, wrap64_in', wrap32_in' (n := (x0 % 32) * 64 + x1 % 64) (by omega) (by omega)]
    | [x0, x1, x2], h, hw, hr =>
      have b0 := h x0 (by simp)
      have b1 := h x1 (by simp)
      have b2 := h x2 (by simp)
      simp only [num] at hr ⊢
      simp only [rd, List.length_cons, List.length_nil, Int.toNat_zero, List.getD_cons_zero]
      rw [if_pos (by omega)]
      rw [if_neg (by omega), if_pos (by omega)]
      have e0 : Int.tmod (wrap64 x0) 16 = x0 % 16 := by rw [wrap64_in' (by omega) (by omega), tm (by omega)]
      have e1 : wrap64 (wrap64 ((x0 % 16) * 64) + Int.tmod (wrap64 x1) 64) = (x0 % 16) * 64 + x1 % 64 := by rw [wrap64_in' (n := x1) (by omega) (by omega), tm (by omega), wrap64_in' (n := (x0 % 16) * 64) (by omega) (by omega), wrap64_in' (by omega) (by omega)]
      have e2 : wrap64 (wrap64 (((x0 % 16) * 64 + x1 % 64) * 64) + Int.tmod (wrap64 x2) 64) = ((x0 % 16) * 64 + x1 % 64) * 64 + x2 % 64 := by rw [wrap64_in' (n := x2) (by omega) (by omega), tm (by omega), wrap64_in' (n := ((x0 % 16) * 64 + x1 % 64) * 64) (by omega) (by omega), wrap64_in' (by omega) (by omega)]
      simp [galleyref01_Value.j0, galleyref01_Value.l0, rd, e0, e1, e2, wrap64_in', wrap32_in' (n := ((x0 % 16) * 64 + x1 % 64) * 64 + x2 % 64) (by omega) (by omega)]
    | [x0, x1, x2, x3], h, hw, hr =>
      have b0 := h x0 (by simp)
      have b1 := h x1 (by simp)
      have b2 := h x2 (by simp)
      have b3 := h x3 (by simp)
      simp only [num] at hr ⊢
      simp only [rd, List.length_cons, List.length_nil, Int.toNat_zero, List.getD_cons_zero]
      rw [if_pos (by omega)]
      rw [if_neg (by omega), if_neg (by omega), if_pos (by omega)]
      have e0 : Int.tmod (wrap64 x0) 8 = x0 % 8 := by rw [wrap64_in' (by omega) (by omega), tm (by omega)]
      have e1 : wrap64 (wrap64 ((x0 % 8) * 64) + Int.tmod (wrap64 x1) 64) = (x0 % 8) * 64 + x1 % 64 := by rw [wrap64_in' (n := x1) (by omega) (by omega), tm (by omega), wrap64_in' (n := (x0 % 8) * 64) (by omega) (by omega), wrap64_in' (by omega) (by omega)]
      have e2 : wrap64 (wrap64 (((x0 % 8) * 64 + x1 % 64) * 64) + Int.tmod (wrap64 x2) 64) = ((x0 % 8) * 64 + x1 % 64) * 64 + x2 % 64 := by rw [wrap64_in' (n := x2) (by omega) (by omega), tm (by omega), wrap64_in' (n := ((x0 % 8) * 64 + x1 % 64) * 64) (by omega) (by omega), wrap64_in' (by omega) (by omega)]
      have e3 : wrap64 (wrap64 ((((x0 % 8) * 64 + x1 % 64) * 64 + x2 % 64) * 64) + Int.tmod (wrap64 x3) 64) = (((x0 % 8) * 64 + x1 % 64) * 64 + x2 % 64) * 64 + x3 % 64 := by rw [wrap64_in' (n := x3) (by omega) (by omega), tm (by omega), wrap64_in' (n := (((x0 % 8) * 64 + x1 % 64) * 64 + x2 % 64) * 64) (by omega) (by omega), wrap64_in' (by omega) (by omega)]
      simp [galleyref01_Value.j0, galleyref01_Value.l0, rd, e0, e1, e2, e3, wrap64_in', wrap32_in' (n := (((x0 % 8) * 64 + x1 % 64) * 64 + x2 % 64) * 64 + x3 % 64) (by omega) (by omega)]
    | _ :: _ :: _ :: _ :: _ :: _, _, hw, _ => simp [whole] at hw
  · rfl
end Go.Proofs.YtbbccljelfjnkaaDoor.Ev
