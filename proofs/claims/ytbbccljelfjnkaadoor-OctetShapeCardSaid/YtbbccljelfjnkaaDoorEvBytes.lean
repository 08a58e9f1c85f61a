/- What the printed Bytes of octet (and of its reference) answer, in the plain words of Math. Conditions: the number is an int32, rounds are enough. -/
import Derived.Test.YtbbccljelfjnkaaDoorEvOct
import Derived.Test.YtbbccljelfjnkaaDoorPr6
namespace Go.Proofs.YtbbccljelfjnkaaDoor.Ev
open Go.RowKit Go.Proofs.YtbbccljelfjnkaaDoor.Pr Go.Proofs.YtbbccljelfjnkaaDoor.Math Go.Proofs.YtbbccljelfjnkaaDoorW.PrintWords Go.Proofs.YtbbccljelfjnkaaDoorW.PrintLast
set_option linter.unusedVariables false
set_option linter.unusedSimpArgs false

theorem i32_and63 (x : Int) (h₀ : 0 ≤ x) (h₁ : x < 2147483648) : bits .and .i32 x 63 = x % 64 := bits_mask .i32 31 (by decide) wraps_i32 6 (by decide) x h₀ (by omega)
theorem o_Bytes_j (k : Nat) (n : Int) (h0 : 0 ≤ n) (h1 : n ≤ 1114111) : octet_Bytes.j0 (k + 1) n false = some (enc0 n) := by
  simp only [octet_Bytes.j0, enc0]
  rw [if_neg (by decide)]
  have e6 : bits .and .i32 n 63 % 256 = n % 64 := by rw [i32_and63 n h0 (by omega)]; omega
  have e12 : bits .and .i32 (n / 64) 63 % 256 = n / 64 % 64 := by rw [i32_and63 _ (by omega) (by omega)]; omega
  have e18 : bits .and .i32 (n / 4096) 63 % 256 = n / 4096 % 64 := by rw [i32_and63 _ (by omega) (by omega)]; omega
  split
  · congr 2; omega
  · split
    · rw [e6, show n / 64 % 256 = n / 64 by omega, u8_or192 _ (by omega) (by omega), u8_or128 _ (by omega) (by omega)]
    · split
      · rw [e6, e12, show n / 4096 % 256 = n / 4096 by omega, u8_or224 _ (by omega) (by omega), u8_or128 _ (by omega) (by omega), u8_or128 _ (by omega) (by omega)]
      · rw [e6, e12, e18, show n / 262144 % 256 = n / 262144 by omega, u8_or240 _ (by omega) (by omega), u8_or128 _ (by omega) (by omega), u8_or128 _ (by omega) (by omega), u8_or128 _ (by omega) (by omega)]
theorem o_Bytes_bad (k : Nat) (n : Int) : octet_Bytes.j0 (k + 3) n true = some (enc0 65533) := by
  simp only [octet_Bytes.j0, octet_Bytes.f]
  rfl
theorem o_Bytes (k : Nat) (r : Int) : octet_Bytes.f (k + 9) r = some (enc r) := by
  have no (h : ¬ (0 ≤ r ∧ r < 55296 ∨ 57343 < r ∧ r ≤ 1114111)) : enc r = enc0 65533 := by unfold enc; rw [if_neg (by unfold isR; simpa using h)]
  have yes (h : 0 ≤ r ∧ r < 55296 ∨ 57343 < r ∧ r ≤ 1114111) : enc r = enc0 r := by unfold enc; rw [if_pos (by unfold isR; simpa using h)]
  simp only [octet_Bytes.f]
  by_cases h0 : r < 0
  · rw [if_pos h0, o_Bytes_bad, no (by omega)]
  · rw [if_neg h0]
    by_cases h1 : r > 1114111
    · rw [if_pos h1, o_Bytes_bad, no (by omega)]
    · rw [if_neg h1]
      by_cases h2 : r ≥ 55296
      · rw [if_pos h2]
        by_cases h3 : r ≤ 57343
        · rw [decide_eq_true h3, o_Bytes_bad, no (by omega)]
        · rw [decide_eq_false h3, o_Bytes_j _ r (by omega) (by omega), yes (by omega)]
      · rw [if_neg h2, o_Bytes_j _ r (by omega) (by omega), yes (by omega)]

theorem r_Is (r : Int) : galleyref01_Is.f r = some (isR r) := by
  unfold galleyref01_Is.f isR
  (repeat' split) <;> congr 1 <;> rw [Bool.eq_iff_iff] <;> simp only [decide_eq_true_eq, true_iff, Bool.false_eq_true, false_iff] <;> omega
theorem r_Bytes_j (k : Nat) (n : Int) (h0 : 0 ≤ n) (h1 : n ≤ 1114111) : galleyref01_Bytes.j0 (k + 1) n = some (enc0 n) := by
  simp only [galleyref01_Bytes.j0, enc0]
  have w0 : wrap64 n = n := wrap64_in' (by omega) (by omega)
  have d1 : wrap64 (Int.tdiv n 64) = n / 64 := by rw [td h0, wrap64_in' (by omega) (by omega)]
  have d2 : wrap64 (Int.tdiv n 4096) = n / 4096 := by rw [td h0, wrap64_in' (by omega) (by omega)]
  have d3 : wrap64 (Int.tdiv n 262144) = n / 262144 := by rw [td h0, wrap64_in' (by omega) (by omega)]
  rw [w0, d1, d2, d3, tm h0, tm (by omega), tm (by omega)]
  have p (a b : Int) (ha : 0 ≤ a) (hb : 0 ≤ b) (hs : a + b ≤ 255) : wrap64 (a + b) % 256 = a + b := by rw [wrap64_in' (by omega) (by omega)]; omega
  split
  · congr 2; omega
  · split
    · rw [p _ _ (by omega) (by omega) (by omega), p _ _ (by omega) (by omega) (by omega)]
    · split
      · rw [p _ _ (by omega) (by omega) (by omega), p _ _ (by omega) (by omega) (by omega), p _ _ (by omega) (by omega) (by omega)]
      · rw [p _ _ (by omega) (by omega) (by omega), p _ _ (by omega) (by omega) (by omega), p _ _ (by omega) (by omega) (by omega), p _ _ (by omega) (by omega) (by omega)]
theorem r_Bytes (k : Nat) (r : Int) : galleyref01_Bytes.f (k + 9) r = some (enc r) := by
  unfold galleyref01_Bytes.f enc
  rw [r_Is]
  simp only [Option.bind_some]
  split
  · rename_i h
    have : 0 ≤ r ∧ r ≤ 1114111 := by unfold isR at h; simp at h; omega
    exact r_Bytes_j _ r this.1 this.2
  · exact r_Bytes_j _ 65533 (by omega) (by omega)
end Go.Proofs.YtbbccljelfjnkaaDoor.Ev
