/- Proved here: the pure statement of the law OctetBack: there and back; unlike runes have unlike encodings; how long they are; what the language itself makes of the number. Conditions: both numbers are int32. -/
import Derived.Test.YtbbccljelfjnkaaDoorEvBytes
import Derived.Test.YtbbccljelfjnkaaDoorPr7
namespace Go.Proofs.YtbbccljelfjnkaaDoor.Pure
open Go.RowKit Go.Proofs.YtbbccljelfjnkaaDoor.Pr Go.Proofs.YtbbccljelfjnkaaDoor.Math Go.Proofs.YtbbccljelfjnkaaDoor.Ev Go.Proofs.YtbbccljelfjnkaaDoorW.PrintWords Go.Proofs.YtbbccljelfjnkaaDoorW.PrintLast
set_option linter.unusedVariables false
set_option linter.unusedSimpArgs false
theorem back_j4 (k : Nat) (r s : Int) (hr : isR r = true) (x : Int) (hx : x = (enc r).length) : galleylaw01_OctetBack.j4 (k + 10) r s (enc r) (enc s) (isR s) x = some true := by
  simp only [galleylaw01_OctetBack.j4]
  rw [if_pos hx.symm, o_Whole k _ (enc_byt r), o_Value k _ (enc_byt r), whole_enc, val_enc r hr]
  simp only [Option.bind_some, if_true]
  by_cases hs : isR s = true
  · rw [if_pos hs]
    congr 1
    rw [Bool.eq_iff_iff]
    simp only [beq_iff_eq, iff_true]
    rw [Bool.eq_iff_iff]
    simp only [beq_iff_eq]
    exact ⟨fun h => enc_inj hr hs (str_inj (enc_byt r) (enc_byt s) h), fun h => by rw [h]⟩
  · rw [if_neg hs]
theorem back_j1 (k : Nat) (r s : Int) : galleylaw01_OctetBack.j1 (k + 13) r s (enc r) (enc s) (isR r) (isR s) = some true := by
  simp only [galleylaw01_OctetBack.j1]
  by_cases hr : isR r = true
  · rw [if_pos hr]
    have hl := enc_len r hr
    have hj2 : ∀ x : Int, x = (if r ≥ 128 then 1 + 1 else 1) → galleylaw01_OctetBack.j2 (k + 12) r s (enc r) (enc s) (isR s) x = some true := by
      intro x hx
      simp only [galleylaw01_OctetBack.j2, galleylaw01_OctetBack.j3]
      by_cases a : r ≥ 65536
      · rw [if_pos (by omega)] at hx
        rw [if_pos (by omega), if_pos a, hx, wrap64_in' (n := 1 + 1 + 1) (by omega) (by omega), wrap64_in' (n := 1 + 1 + 1 + 1) (by omega) (by omega)]
        exact back_j4 k r s hr _ (by rw [hl, if_pos a]; rfl)
      · rw [if_neg a] at hl
        by_cases b : r ≥ 2048
        · rw [if_pos (by omega)] at hx
          rw [if_pos b, if_neg a, hx, wrap64_in' (by omega) (by omega)]
          exact back_j4 k r s hr _ (by rw [hl, if_pos b]; rfl)
        · rw [if_neg b] at hl
          rw [if_neg b, if_neg a]
          refine back_j4 k r s hr _ ?_
          rw [hx, hl]
          rfl
    by_cases c : r ≥ 128
    · rw [if_pos c]; exact hj2 _ (by rw [if_pos c])
    · rw [if_neg c]; exact hj2 _ (by rw [if_neg c])
  · rw [if_neg hr, enc_not r (by simpa using hr)]
    have e : (strOfNums [239, 191, 189]).toList = ([239, 191, 189] : List UInt8) := by rw [str_toList]; decide
    rw [if_pos e, show k + 12 = (k + 3) + 9 from rfl, o_Value (k + 3) [239, 191, 189] (by unfold Byt; simp)]
    simp only [Option.bind_some]
    decide +kernel
theorem OctetBack : galleylaw01_OctetBack.Pure := by
  intro r s hr hs
  refine ⟨20, ?_⟩
  unfold galleylaw01_OctetBack.f galleylaw01_awake.f
  simp only [Option.bind_some, if_true]
  rw [o_Bytes 11 r, o_Bytes 11 s]
  simp only [Option.bind_some]
  rw [if_pos (by rw [strOfRune, encode_eq])]
  have hj0 (b : Bool) (hb : b = isR r) : galleylaw01_OctetBack.j0 20 r s (enc r) (enc s) b = some true := by
    subst hb
    simp only [galleylaw01_OctetBack.j0]
    have t : galleylaw01_OctetBack.j1 19 r s (enc r) (enc s) (isR r) (isR s) = some true := back_j1 6 r s
    have q (b : Bool) (hb : b = isR s) : galleylaw01_OctetBack.j1 19 r s (enc r) (enc s) (isR r) b = some true := by rw [hb]; exact t
    have w (p : Prop) [Decidable p] (h : p ↔ (0 ≤ s ∧ s < 55296 ∨ 57343 < s ∧ s ≤ 1114111)) : decide p = isR s := by unfold isR; rw [Bool.eq_iff_iff]; simpa using h
    (repeat' split)
    · exact q _ (by rw [eq_comm, isR_iff]; omega)
    · exact q _ (w _ (by omega))
    · exact q _ (by rw [eq_comm, Bool.eq_false_iff, ne_eq, isR_iff]; omega)
    · exact q _ (w _ (by omega))
    · exact q _ (by rw [eq_comm, Bool.eq_false_iff, ne_eq, isR_iff]; omega)
  have w (p : Prop) [Decidable p] (h : p ↔ (0 ≤ r ∧ r < 55296 ∨ 57343 < r ∧ r ≤ 1114111)) : decide p = isR r := by unfold isR; rw [Bool.eq_iff_iff]; simpa using h
  (repeat' split)
  · exact hj0 _ (by rw [eq_comm, isR_iff]; omega)
  · exact hj0 _ (w _ (by omega))
  · exact hj0 _ (by rw [eq_comm, Bool.eq_false_iff, ne_eq, isR_iff]; omega)
  · exact hj0 _ (w _ (by omega))
  · exact hj0 _ (by rw [eq_comm, Bool.eq_false_iff, ne_eq, isR_iff]; omega)
end Go.Proofs.YtbbccljelfjnkaaDoor.Pure
