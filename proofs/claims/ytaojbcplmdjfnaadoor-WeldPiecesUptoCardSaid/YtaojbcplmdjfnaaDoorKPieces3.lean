/- Part 3 of the lemmas on which the card weldPieces_card stands (its sentence and conditions stand in the last text). Conditions: as each lemma says. -/
import Derived.Test.YtaojbcplmdjfnaaDoorKPieces2
import Derived.Lib.Strings
import Derived.Lib.SmallJoins
import Derived.Lib.SlBytesConst
import Derived.Outline
namespace Go.Proofs.YtaojbcplmdjfnaaDoor.PuMs
open Go.RowKit Go.Proofs.YtaojbcplmdjfnaaDoor.Pr Go.Proofs.YtaojbcplmdjfnaaDoor.Math Go.Proofs.YtaojbcplmdjfnaaDoor.PuSz Go.Proofs.YtaojbcplmdjfnaaDoorW.PrintWords Go.Proofs.YtaojbcplmdjfnaaDoorW.PrintLast Go.Proofs.YtaojbcplmdjfnaaDoorW.PrintMore
set_option linter.unusedVariables false
set_option linter.unusedSimpArgs false
theorem bo_byt (s : ByteArray) : Byt (bytesOf s) := by
  intro x hx
  unfold bytesOf at hx
  obtain ⟨b, _, rfl⟩ := List.mem_map.1 hx
  have := UInt8.toNat_lt b
  omega
theorem bo_str (l : List Int) (hb : Byt l) : bytesOf (strOfNums l) = l := by
  unfold bytesOf
  rw [strOfNums_data, List.map_map]
  conv => rhs; rw [← List.map_id l]
  apply List.map_congr_left
  intro x hx
  have := hb x hx
  simp [UInt8.toNat_ofNat']
  omega
theorem ba_ext {s t : ByteArray} (h : s.data.toList = t.data.toList) : s = t := by
  cases s; cases t
  simp only [ByteArray.mk.injEq]
  exact Array.toList_inj.1 h
theorem bo_inj {s t : ByteArray} (h : bytesOf s = bytesOf t) : s = t := by
  apply ba_ext
  unfold bytesOf at h
  exact (List.map_inj_right (fun x y e => UInt8.toNat_inj.1 (by omega))).1 h
theorem bo_append (s t : ByteArray) : bytesOf (s ++ t) = bytesOf s ++ bytesOf t := by unfold bytesOf; rw [ByteArray.data_append, Array.toList_append, List.map_append]
theorem bo_extract (s : ByteArray) (a b : Nat) : bytesOf (s.extract a b) = ((bytesOf s).drop a).take (b - a) := by unfold bytesOf; rw [Lib.extract_data, List.map_take, List.map_drop]
theorem tl_eq (s t : ByteArray) : s.toList = t.toList ↔ bytesOf s = bytesOf t := by
  rw [ByteArray.toList_eq, ByteArray.toList_eq]
  constructor
  · intro h; rw [ba_ext h]
  · intro h; rw [bo_inj h]
theorem tl_beq (s t : ByteArray) : (s.toList == t.toList) = decide (bytesOf s = bytesOf t) := by
  rw [Bool.eq_iff_iff, beq_iff_eq, decide_eq_true_eq, tl_eq]
theorem sz_str (l : List Int) : (strOfNums l).size = l.length := strOfNums_size l
theorem ex_head (s : ByteArray) : bytesOf (s.extract 0 (mn 3 (s.size : Int)).toNat) = (bytesOf s).take 3 := by
  rw [bo_extract, List.drop_zero, Nat.sub_zero]
  unfold mn
  split
  · rw [Int.toNat_natCast, List.take_of_length_le (by rw [bytesOf_length]; omega), List.take_of_length_le (by rw [bytesOf_length]; omega)]
  · rfl
theorem ex_tail (s : ByteArray) (a : Nat) : bytesOf (s.extract a s.size) = (bytesOf s).drop a := by
  rw [bo_extract, List.take_of_length_le (by rw [List.length_drop, bytesOf_length]; omega)]
theorem mx_tail (n : Nat) : (mx 0 ((n : Int) - 3)).toNat = n - 3 := by unfold mx; split <;> omega
theorem mx_le (n : Nat) : 0 ≤ mx 0 ((n : Int) - 3) ∧ mx 0 ((n : Int) - 3) ≤ n := by unfold mx; split <;> omega
theorem mn_le (n : Nat) : 0 ≤ mn 3 (n : Int) ∧ mn 3 (n : Int) ≤ n ∧ (mn 3 (n : Int)).toNat = min 3 n := by unfold mn; split <;> omega
theorem head_eq' (s : ByteArray) : weld_head.f s = some (strOfNums ((bytesOf s).take 3)) := by
  have h := mn_le s.size
  unfold weld_head.f
  rw [if_pos h.1, if_pos h.2.1]
  congr 1
  apply bo_inj
  rw [ex_head, bo_str _ ((bo_byt s).take 3)]
theorem tail_eq (s : ByteArray) (hs : s.size ≤ 4611686018427387904) : weld_tail.f s = some (strOfNums ((bytesOf s).drop (s.size - 3))) := by
  have h := mx_le s.size
  unfold weld_tail.f
  rw [w64 (by omega) (by omega), if_pos h.1, if_pos h.2]
  congr 1
  apply bo_inj
  rw [mx_tail, ex_tail, bo_str _ ((bo_byt s).drop _)]
abbrev Ms := Int × Int × Int × Int × ByteArray × ByteArray
def mOf (l : List Int) : Ms := ((l.length : Int), rn l, rn l + fr l, en 0 l, strOfNums (l.take 3), strOfNums (l.drop (l.length - 3)))
def m0 : Ms := (0, 0, 0, 0, ⟨#[]⟩, ⟨#[]⟩)
theorem mOf_nil : mOf [] = m0 := by
  unfold mOf m0
  rfl
theorem weldOf_eq (l : List Int) (hb : Byt l) (hl : l.length ≤ 268435456) : weld_Of.f l = some (mOf l) := by
  have h := mn_le l.length
  have h' := mx_le l.length
  unfold weld_Of.f
  rw [if_neg (by omega), weldSizes_eq l hb (by omega)]
  simp only [Option.bind_some]
  rw [if_pos h.1, if_pos h.2.1, w64 (by omega) (by omega), if_pos h'.1, if_pos h'.2, mx_tail, h.2.2]
  unfold mOf
  have e : l.take (min 3 l.length) = l.take 3 := by
    by_cases h3 : l.length ≤ 3
    · rw [List.take_of_length_le (by omega), List.take_of_length_le h3]
    · rw [show min 3 l.length = 3 by omega]
  rw [e]
theorem ends_six (n : Nat) (hn : n ≤ 6) (H T : List Int) (hH : H.length = min 3 n) (hT : T.length = min 3 n) (he : H.drop (n - T.length) = T.take (H.length + T.length - n)) :
    (H ++ T.drop (H.length + T.length - n)).length = n ∧ (H ++ T.drop (H.length + T.length - n)).take 3 = H ∧ (H ++ T.drop (H.length + T.length - n)).drop (n - 3) = T := by
  have e1 : (H ++ T.drop (H.length + T.length - n)).length = n := by rw [List.length_append, List.length_drop]; omega
  refine ⟨e1, ?_, ?_⟩
  · by_cases h3 : 3 ≤ n
    · rw [show 3 = H.length by omega, List.take_left]
    · rw [List.take_of_length_le (by omega), List.drop_of_length_le (by omega), List.append_nil]
  · have e2 : H ++ T.drop (H.length + T.length - n) = H.take (n - T.length) ++ T := by
      have e0 : H.take (n - T.length) ++ T.take (H.length + T.length - n) = H := by rw [← he, List.take_append_drop]
      generalize H.length + T.length - n = o at *
      rw [show H ++ T.drop o = (H.take (n - T.length) ++ T.take o) ++ T.drop o by rw [e0], List.append_assoc, List.take_append_drop]
    rw [e2]
    have e3 : n - 3 = (H.take (n - T.length)).length := by rw [List.length_take]; omega
    rw [e3, List.drop_left]
theorem weldShort_eq (n r u e : Int) (h t : ByteArray) (hn : 0 ≤ n ∧ n ≤ 6) (hh : (h.size : Int) = min 3 n) (ht : (t.size : Int) = min 3 n) :
    weld_short.f n r u e h t = some (if (bytesOf h).drop (n.toNat - t.size) = (bytesOf t).take (h.size + t.size - n.toNat) then (strOfNums (bytesOf h ++ (bytesOf t).drop (h.size + t.size - n.toNat)), true) else (⟨#[]⟩, false)) := by
  have s1 : wrap64 ((h.size : Int) + (t.size : Int)) = ((h.size + t.size : Nat) : Int) := by rw [w64 (by omega) (by omega)]; omega
  have s2 : wrap64 (((h.size + t.size : Nat) : Int) - n) = ((h.size + t.size - n.toNat : Nat) : Int) := by rw [w64 (by omega) (by omega)]; omega
  have s3 : wrap64 ((h.size : Int) - ((h.size + t.size - n.toNat : Nat) : Int)) = ((n.toNat - t.size : Nat) : Int) := by rw [w64 (by omega) (by omega)]; omega
  unfold weld_short.f
  rw [s1, s2, s3, if_pos (by omega), if_pos (by omega), if_pos (by omega), if_pos (by omega)]
  simp only [Int.toNat_natCast, tl_eq]
  rw [ex_tail, bo_extract, List.drop_zero, Nat.sub_zero]
  by_cases hc : (bytesOf h).drop (n.toNat - t.size) = (bytesOf t).take (h.size + t.size - n.toNat)
  · rw [if_pos hc, if_pos hc, if_pos (by rw [ByteArray.size_extract]; omega)]
    congr 2
    apply bo_inj
    rw [bo_append, ex_tail, bo_str _ ((bo_byt h).append ((bo_byt t).drop _))]
  · rw [if_neg hc, if_neg hc]
theorem vldB_in (n r u e : Int) (H T : List Int) (hn : 0 ≤ n ∧ n ≤ 268435456) (hh : (H.length : Int) = min 3 n) (ht : (T.length : Int) = min 3 n) : vldB n r u e H T =
    if n ≤ 6 then decide (H.drop (n.toNat - T.length) = T.take (H.length + T.length - n.toNat)) && decide (r = rn (H ++ T.drop (H.length + T.length - n.toNat)) ∧ u = rn (H ++ T.drop (H.length + T.length - n.toNat)) + fr (H ++ T.drop (H.length + T.length - n.toNat)) ∧ e = en 0 (H ++ T.drop (H.length + T.length - n.toNat)))
    else decide (0 ≤ r ∧ r ≤ n ∧ r ≤ u ∧ u ≤ 2 * r ∧ r - (u - r) ≤ n - 4 * (u - r) ∧ n - 4 * (u - r) ≤ 3 * (r - (u - r)) ∧ 0 ≤ e ∧ e ≤ r) := by
  unfold vldB
  rw [if_neg (by omega)]
theorem weldValid_j0 (k : Nat) (n r u e : Int) (h t : ByteArray) (hn : 0 ≤ n ∧ n ≤ 268435456) (hh : (h.size : Int) = min 3 n) (ht : (t.size : Int) = min 3 n) (hr : -9223372036854775808 ≤ r ∧ r ≤ 9223372036854775807) (hu : -9223372036854775808 ≤ u ∧ u ≤ 9223372036854775807) :
    weld_Valid.j0 (k + 1) false n r u e h t n r u e = some (vldB n r u e (bytesOf h) (bytesOf t)) := by
  rw [vldB_in n r u e (bytesOf h) (bytesOf t) hn (by rw [bytesOf_length]; exact hh) (by rw [bytesOf_length]; exact ht)]
  simp only [weld_Valid.j0, Bool.false_eq_true, if_false]
  by_cases h6 : n ≤ 6
  · rw [if_pos h6, if_pos h6, weldShort_eq n r u e h t ⟨hn.1, h6⟩ hh ht]
    simp only [Option.bind_some, bytesOf_length]
    by_cases hc : (bytesOf h).drop (n.toNat - t.size) = (bytesOf t).take (h.size + t.size - n.toNat)
    · have hs := ends_six n.toNat (by omega) (bytesOf h) (bytesOf t) (by rw [bytesOf_length]; omega) (by rw [bytesOf_length]; omega) (by rw [bytesOf_length, bytesOf_length]; exact hc)
      rw [bytesOf_length, bytesOf_length] at hs
      have hB : Byt (bytesOf h ++ (bytesOf t).drop (h.size + t.size - n.toNat)) := (bo_byt h).append ((bo_byt t).drop _)
      simp only [if_pos hc, if_true]
      generalize bytesOf h ++ (bytesOf t).drop (h.size + t.size - n.toNat) = B at *
      rw [if_pos (by rw [sz_str]; omega), bo_str B hB, weldOf_eq B hB (by omega)]
      simp only [Option.bind_some, mOf, tl_beq, bo_str _ (hB.take 3), bo_str _ (hB.drop _)]
      rw [hs.1, hs.2.1, hs.2.2]
      congr 1
      have hnn : ((n.toNat : Nat) : Int) = n := by omega
      rw [hnn]
      rw [Bool.eq_iff_iff]
      simp
      exact fun _ _ _ => hc
    · simp only [if_neg hc, Bool.false_eq_true, if_false]
      rw [decide_eq_false hc, Bool.false_and]
  · rw [if_neg h6, if_neg h6]
    by_cases c1 : r ≥ 0
    · rw [if_pos c1]
      by_cases c2 : r ≤ n
      · rw [if_pos c2]
        by_cases c3 : u ≥ 0
        · rw [if_pos c3]
          by_cases c4 : u ≤ n
          · rw [if_pos c4, w64 (n := u - r) (by omega) (by omega), w64 (n := r - (u - r)) (by omega) (by omega), w64 (n := 4 * (u - r)) (by omega) (by omega), w64 (n := n - 4 * (u - r)) (by omega) (by omega), w64 (n := 3 * (r - (u - r))) (by omega) (by omega)]
            (repeat' split) <;> (congr 1; rw [Bool.eq_iff_iff]; simp only [decide_eq_true_eq, Bool.false_eq_true, false_iff]; omega)
          · rw [if_neg c4]; congr 1; symm; rw [decide_eq_false_iff_not]; omega
        · rw [if_neg c3]; congr 1; symm; rw [decide_eq_false_iff_not]; omega
      · rw [if_neg c2]; congr 1; symm; rw [decide_eq_false_iff_not]; omega
    · rw [if_neg c1]; congr 1; symm; rw [decide_eq_false_iff_not]; omega
theorem weldValid_eq (k : Nat) (n r u e : Int) (h t : ByteArray) (hr : -9223372036854775808 ≤ r ∧ r ≤ 9223372036854775807) (hu : -9223372036854775808 ≤ u ∧ u ≤ 9223372036854775807) :
    weld_Valid.f (k + 1) n r u e h t = some (vldB n r u e (bytesOf h) (bytesOf t)) := by
  have hF : ∀ x y z w, weld_Valid.j0 (k + 1) true n r u e h t x y z w = some false := fun x y z w => by simp [weld_Valid.j0]
  have hV : (n < 0 ∨ n > 268435456 ∨ (h.size : Int) ≠ min 3 n ∨ (t.size : Int) ≠ min 3 n) → vldB n r u e (bytesOf h) (bytesOf t) = false := fun c => by
    unfold vldB; rw [bytesOf_length, bytesOf_length, if_pos c]
  have hm : mn 3 n = min 3 n := by unfold mn; split <;> omega
  unfold weld_Valid.f
  rw [hm]
  by_cases h1 : n < 0
  · rw [if_pos h1, hF, hV (by omega)]
  · rw [if_neg h1]
    by_cases h2 : n > 268435456
    · rw [if_pos h2, hF, hV (by omega)]
    · rw [if_neg h2]
      by_cases h3 : (h.size : Int) = min 3 n
      · rw [if_pos h3]
        by_cases h4 : (t.size : Int) = min 3 n
        · rw [show ((t.size : Int) != min 3 n) = false by simp [h4]]
          exact weldValid_j0 k n r u e h t (by omega) h3 h4 hr hu
        · rw [show ((t.size : Int) != min 3 n) = true by simp [h4], hF, hV (by omega)]
      · rw [if_neg h3, hF, hV (by omega)]
end Go.Proofs.YtaojbcplmdjfnaaDoor.PuMs

namespace Go.Proofs.YtaojbcplmdjfnaaDoor.Ev
open Go.RowKit Go.Proofs.YtaojbcplmdjfnaaDoor.Pr Go.Proofs.YtaojbcplmdjfnaaDoor.Math Go.Proofs.YtaojbcplmdjfnaaDoorW.PrintWords Go.Proofs.YtaojbcplmdjfnaaDoorW.PrintLast
set_option linter.unusedVariables false
set_option linter.unusedSimpArgs false
theorem o_Class (b : Int) (h : 0 ≤ b ∧ b ≤ 255) : octet_Class.f b = some (cls b) := by unfold octet_Class.f; rw [if_pos h]; rfl
theorem o_Need (b : Int) (h : 0 ≤ b ∧ b ≤ 255) : octet_Need.f b = some (need b) := by unfold octet_Need.f; rw [if_pos h]; rfl
theorem o_second (a : Int) (h : 0 ≤ a ∧ a ≤ 255) : octet_second.f a = some (if a = 224 then (160, 191) else if a = 237 then (128, 159) else if a = 240 then (144, 191) else if a = 244 then (128, 143) else if need a > 1 then (128, 191) else (1, 0)) := by
  unfold octet_second.f
  rw [o_Need a h]
  simp only [Option.bind_some]
  (repeat' split) <;> rfl
theorem o_Second (a b : Int) (h : 0 ≤ a ∧ a ≤ 255) : octet_Second.f a b = some (sec a b) := by
  unfold octet_Second.f
  rw [o_second a h]
  simp only [Option.bind_some]
  unfold sec
  (repeat' split) <;> simp_all <;> omega
theorem o_Whole (k : Nat) (l : List Int) (h : Byt l) : octet_Whole.f (k + 9) l = some (whole l) := by
  unfold octet_Whole.f
  match l, h with
  | [], _ => simp [octet_Whole.j0, whole]
  | [x0], h =>
    have b0 := h x0 (by simp)
    simp only [rd, List.length_cons, List.length_nil, Int.toNat_zero, List.getD_cons_zero]
    rw [if_neg (by simp), if_pos (by simp), o_Need x0 b0]
    simp only [Option.bind_some, octet_Whole.j0, drop1, whole]
    by_cases hn : need x0 = 1
    · simp [hn, octet_Whole.l0]
    · simp [hn]
  | [x0, x1], h =>
    have b0 := h x0 (by simp)
    have b1 := h x1 (by simp)
    simp only [rd, List.length_cons, List.length_nil, Int.toNat_zero, List.getD_cons_zero]
    rw [if_neg (by simp), if_pos (by simp), o_Need x0 b0]
    simp only [Option.bind_some, octet_Whole.j0, drop1, whole]
    by_cases hn : need x0 = 2
    · have st := @sec_tail x0 x1
      simp [hn, octet_Whole.l0, rd, o_Second x0 x1 b0, o_Class x1 b1, cls_two x1 b1.1 b1.2, wrap64_in', tl]
      (repeat' split) <;> simp_all
    · simp [hn]
  | [x0, x1, x2], h =>
    have b0 := h x0 (by simp)
    have b1 := h x1 (by simp)
    have b2 := h x2 (by simp)
    simp only [rd, List.length_cons, List.length_nil, Int.toNat_zero, List.getD_cons_zero]
    rw [if_neg (by simp), if_pos (by simp), o_Need x0 b0]
    simp only [Option.bind_some, octet_Whole.j0, drop1, whole]
    by_cases hn : need x0 = 3
    · have st := @sec_tail x0 x1
      simp [hn, octet_Whole.l0, rd, o_Second x0 x1 b0, o_Class x1 b1, cls_two x1 b1.1 b1.2, o_Class x2 b2, cls_two x2 b2.1 b2.2, wrap64_in', tl]
      (repeat' split) <;> simp_all
    · simp [hn]
  | [x0, x1, x2, x3], h =>
    have b0 := h x0 (by simp)
    have b1 := h x1 (by simp)
    have b2 := h x2 (by simp)
    have b3 := h x3 (by simp)
    simp only [rd, List.length_cons, List.length_nil, Int.toNat_zero, List.getD_cons_zero]
    rw [if_neg (by simp), if_pos (by simp), o_Need x0 b0]
    simp only [Option.bind_some, octet_Whole.j0, drop1, whole]
    by_cases hn : need x0 = 4
    · have st := @sec_tail x0 x1
      simp [hn, octet_Whole.l0, rd, o_Second x0 x1 b0, o_Class x1 b1, cls_two x1 b1.1 b1.2, o_Class x2 b2, cls_two x2 b2.1 b2.2, o_Class x3 b3, cls_two x3 b3.1 b3.2, wrap64_in', tl]
      cases hs : sec x0 x1 <;> by_cases h2 : 128 ≤ x2 <;> by_cases h2' : x2 ≤ 191 <;> by_cases h3 : 128 ≤ x3 <;> by_cases h3' : x3 ≤ 191 <;> simp_all <;> split <;> simp_all <;> omega
    · simp [hn]
  | x0 :: x1 :: x2 :: x3 :: x4 :: r, h =>
    have b0 := h x0 (by simp)
    have hl := need_le x0
    simp only [rd, List.length_cons, Int.toNat_zero, List.getD_cons_zero]
    rw [if_neg (by omega), if_pos (by omega), o_Need x0 b0]
    simp only [Option.bind_some, octet_Whole.j0, whole]
    rw [if_pos (by rw [bne_iff_ne]; omega)]
theorem u8_and127 {x : Int} (h₀ : 0 ≤ x) (h₁ : x < 256) : bits .and .u8 x 127 = x % 128 := bits_mask .u8 8 (by decide) wraps_u8 7 (by decide) x h₀ h₁
theorem head_eq {x m n : Int} (h : bits .and .u8 x m = n) (h0 : 0 ≤ n) (h1 : n < 256) : headV x m = n := by unfold headV; rw [h]; exact wrap32_in' (by omega) (by omega)
theorem step_eq {z c : Int} (h0 : 0 ≤ z) (h1 : z < 32768) (hc : 0 ≤ c ∧ c ≤ 255) : stepV z c = z * 64 + c % 64 := by
  unfold stepV
  rw [u8_and63 _ hc.1 (by omega), wrap32_in' (by omega) (by omega), wrap32_in' (by omega) (by omega), i32_or6 _ _ (by omega) (by omega) (by omega) (by omega) (by omega)]
theorem valL_eq (l : List Int) (h : Byt l) (hw : whole l = true) : valL l = some (num l) := by
  match l, h, hw with
  | [], _, hw => simp [whole] at hw
  | [x0], h, hw =>
    have b0 := h x0 (by simp)
    have hn : need x0 = 1 := by simpa [whole] using hw
    have : x0 < 128 := by unfold need at hn; (repeat' split at hn) <;> omega
    simp only [valL, num]
    rw [head_eq (u8_and127 b0.1 (by omega)) (by omega) (by omega)]
    congr 1
    omega
  | [x0, x1], h, hw =>
    have b0 := h x0 (by simp)
    have b1 := h x1 (by simp)
    simp only [valL, num]
    rw [head_eq (u8_and31 _ b0.1 (by omega)) (by omega) (by omega), step_eq (by omega) (by omega) b1]
  | [x0, x1, x2], h, hw =>
    have b0 := h x0 (by simp)
    have b1 := h x1 (by simp)
    have b2 := h x2 (by simp)
    simp only [valL, num]
    rw [head_eq (u8_and15 _ b0.1 (by omega)) (by omega) (by omega), step_eq (by omega) (by omega) b1, step_eq (by omega) (by omega) b2]
  | [x0, x1, x2, x3], h, hw =>
    have b0 := h x0 (by simp)
    have b1 := h x1 (by simp)
    have b2 := h x2 (by simp)
    have b3 := h x3 (by simp)
    simp only [valL, num]
    rw [head_eq (u8_and7 _ b0.1 (by omega)) (by omega) (by omega), step_eq (by omega) (by omega) b1, step_eq (by omega) (by omega) b2, step_eq (by omega) (by omega) b3]
  | _ :: _ :: _ :: _ :: _ :: _, _, hw => simp [whole] at hw
theorem o_Value (k : Nat) (l : List Int) (h : Byt l) : octet_Value.f (k + 9) l = some (val l) := by
  unfold octet_Value.f val
  rw [o_Whole k l h]
  simp only [Option.bind_some]
  split
  · rename_i hw
    exact valL_eq l h hw
  · rfl
theorem num_range (l : List Int) (h : Byt l) (hw : whole l = true) : 0 ≤ num l ∧ num l < 2097152 := by
  match l, h, hw with
  | [], _, hw => simp [whole] at hw
  | [x0], h, hw => have b0 := h x0 (by simp); simp only [num]; omega
  | [x0, x1], h, hw => simp only [num]; omega
  | [x0, x1, x2], h, hw => simp only [num]; omega
  | [x0, x1, x2, x3], h, hw => simp only [num]; omega
  | _ :: _ :: _ :: _ :: _ :: _, _, hw => simp [whole] at hw
theorem val_range (l : List Int) (h : Byt l) : -1 ≤ val l ∧ val l < 2097152 := by
  unfold val
  split
  · rename_i hw
    have := num_range l h hw
    omega
  · omega
theorem whole_iff (l : List Int) (h : Byt l) : whole l = true ↔ l ≠ [] ∧ lg l = l.length := by
  match l, h with
  | [], _ => simp [whole]
  | [x0], h =>
    have b0 := h x0 (by simp)
    simp only [whole, lg, List.length_cons, List.length_nil, decide_eq_true_eq, ne_eq, reduceCtorEq, not_false_eq_true, true_and]
    have := lgT_cases x0 (List.getD [] 0 (-1)) (List.getD [] 1 (-1)) (List.getD [] 2 (-1))
    constructor
    · intro hn
      unfold lgT; rw [if_pos (by unfold need at hn; (repeat' split at hn) <;> omega)]
    · intro hn
      rw [need_1 (by omega)]
  | [x0, x1], h =>
    simp only [whole, lg, List.length_cons, List.length_nil, Bool.and_eq_true, decide_eq_true_eq, ne_eq, reduceCtorEq, not_false_eq_true, true_and, List.getD_cons_zero, List.getD_cons_succ, sec_iff]
    have := lgT_cases x0 x1 (List.getD [] 0 (-1)) (List.getD [] 1 (-1))
    constructor
    · rintro ⟨hn, h1, h2⟩
      have hx : 194 ≤ x0 ∧ x0 < 224 := by unfold need at hn; (repeat' split at hn) <;> omega
      unfold lgT; rw [if_neg (by omega), if_pos (by omega)]
    · intro hn
      rw [need_2 (by omega) (by omega)]
      omega
  | [x0, x1, x2], h =>
    simp only [whole, lg, List.length_cons, List.length_nil, Bool.and_eq_true, decide_eq_true_eq, ne_eq, reduceCtorEq, not_false_eq_true, true_and, List.getD_cons_zero, List.getD_cons_succ, sec_iff, tl_iff]
    constructor
    · rintro ⟨hn, ⟨h1, h2⟩, h3⟩
      have hx : 224 ≤ x0 ∧ x0 < 240 := by unfold need at hn; (repeat' split at hn) <;> omega
      unfold lgT; rw [if_neg (by omega), if_neg (by omega), if_pos (by omega)]
    · intro hn
      unfold lgT at hn
      split at hn
      · omega
      · split at hn
        · omega
        · split at hn
          · rw [need_3 (by omega) (by omega)]; omega
          · split at hn <;> omega
  | [x0, x1, x2, x3], h =>
    simp only [whole, lg, List.length_cons, List.length_nil, Bool.and_eq_true, decide_eq_true_eq, ne_eq, reduceCtorEq, not_false_eq_true, true_and, List.getD_cons_zero, List.getD_cons_succ, sec_iff, tl_iff]
    constructor
    · rintro ⟨hn, ⟨h1, h2⟩, h3, h4⟩
      have hx : 240 ≤ x0 ∧ x0 < 245 := by unfold need at hn; (repeat' split at hn) <;> omega
      unfold lgT; rw [if_neg (by omega), if_neg (by omega), if_neg (by omega), if_pos (by omega)]
    · intro hn
      unfold lgT at hn
      split at hn
      · omega
      · split at hn
        · omega
        · split at hn
          · omega
          · split at hn
            · rw [need_4 (by omega) (by omega)]; omega
            · omega
  | x0 :: x1 :: x2 :: x3 :: x4 :: r, _ =>
    simp only [whole, Bool.false_eq_true, false_iff]
    rintro ⟨_, hn⟩
    have := lg_le (x0 :: x1 :: x2 :: x3 :: x4 :: r)
    rw [hn] at this
    simp at this
theorem val_lg (l : List Int) (h : Byt l) (hn : l ≠ []) : (0 ≤ val l ↔ lg l = l.length) ∧ (lg l = l.length → (val l > 65535 ↔ lg l = 4)) := by
  have hw := whole_iff l h
  unfold val
  by_cases hwl : whole l = true
  · rw [if_pos hwl]
    have hl := (hw.1 hwl).2
    obtain ⟨x, t, rfl⟩ : ∃ x t, l = x :: t := by cases l with | nil => exact absurd rfl hn | cons x t => exact ⟨x, t, rfl⟩
    have hr := ru_facts x t (h x (by simp)).1
    have e : ru (x :: t) = num (x :: t) := by
      unfold ru
      rw [if_neg (by rw [hl]; simp), hl, List.take_length]
    rw [e] at hr
    exact ⟨⟨fun _ => hl, fun _ => hr.2.2.2.1⟩, fun _ => hr.2.2.1⟩
  · rw [if_neg hwl]
    have hne : ¬ lg l = l.length := fun c => hwl (hw.2 ⟨hn, c⟩)
    exact ⟨⟨fun c => by omega, fun c => absurd c hne⟩, fun c => absurd c hne⟩
end Go.Proofs.YtaojbcplmdjfnaaDoor.Ev

namespace Go.Proofs.YtaojbcplmdjfnaaDoor.Pr
open Go.RowKit Go.Proofs.YtaojbcplmdjfnaaDoorW.PrintWords Go.Proofs.YtaojbcplmdjfnaaDoorW.PrintLast Go.Proofs.YtaojbcplmdjfnaaDoorW.PrintMore
set_option linter.unusedVariables false
set_option linter.unusedSimpArgs false
theorem C_lit (w : World) (e : TypeId) (xs : List Int) (fr : Nat × Nat) (h : xs.length ≤ 9223372036854775807) :
    Kd.C (Kd.int .u8) (w.alloc (.cells (xs.map (Value.int .u8)).toArray e fr)) (some ⟨w.heap.size, 0, none⟩) xs.length xs := by
  refine Kd.C_of_reads (d := (0 : Int)) (h1 := fun _ => rfl) ⟨rfl, h, fun _ => ⟨_, rfl, fun j hj => ?_⟩⟩
  rw [add_plain, cell_of_row _ _ j _ e fr (heap_alloc_new w _)]
  simp [List.getElem?_eq_getElem hj, List.getD_eq_getElem?_getD]
def galleylaw05_fixed.f : Option Bool := some true
set_option maxRecDepth 100000 in
theorem fx1 : weld_Of.f [240, 159] = some (2, 2, 2, 0, ⟨#[240, 159]⟩, ⟨#[240, 159]⟩) := by kernel_rfl
set_option maxRecDepth 100000 in
theorem fx2 : weld_Of.f [152, 128, 13] = some (3, 3, 3, 1, ⟨#[152, 128, 13]⟩, ⟨#[152, 128, 13]⟩) := by kernel_rfl
set_option maxRecDepth 100000 in
theorem fx3 : weld_Join.f 30 2 2 2 0 ⟨#[240, 159]⟩ ⟨#[240, 159]⟩ 3 3 3 1 ⟨#[152, 128, 13]⟩ ⟨#[152, 128, 13]⟩ = some (5, 2, 3, 1, ⟨#[240, 159, 152]⟩, ⟨#[152, 128, 13]⟩, 0) := by kernel_rfl
set_option maxRecDepth 100000 in
theorem fx4 : weld_Seam.f 30 2 2 2 0 ⟨#[240, 159]⟩ ⟨#[240, 159]⟩ 3 3 3 1 ⟨#[152, 128, 13]⟩ ⟨#[152, 128, 13]⟩ = some (0, 3, 2, 0, 0) := by kernel_rfl
set_option maxRecDepth 100000 in
theorem fx5 : weld_Valid.f 30 5 2 3 1 ⟨#[240, 159, 152]⟩ ⟨#[152, 128, 13]⟩ = some true := by kernel_rfl
theorem weld_cells {W : World} {b : Nat} {i1 i2 i3 i4 : Int} {s1 s2 : ByteArray} {t : TypeId} {fr : Nat × Nat} (h : W.heap[b]? = some (.cells #[.int .i64 i1, .int .i64 i2, .int .i64 i3, .int .i64 i4, .string s1, .string s2] t fr)) :
    W.cell? ⟨b, 0, none⟩ = some (.int .i64 i1) ∧ W.cell? ⟨b, 1, none⟩ = some (.int .i64 i2) ∧ W.cell? ⟨b, 2, none⟩ = some (.int .i64 i3) ∧ W.cell? ⟨b, 3, none⟩ = some (.int .i64 i4) ∧ W.cell? ⟨b, 4, none⟩ = some (.string s1) ∧ W.cell? ⟨b, 5, none⟩ = some (.string s2) := by
  refine ⟨?_, ?_, ?_, ?_, ?_, ?_⟩ <;> (rw [cell_of_row _ _ _ _ _ _ h]; rfl)
set_option maxHeartbeats 8000000 in
set_option maxRecDepth 100000 in
theorem galleylaw05_fixed.calls (r : Bool) (w : World) (hG : Glob.Globs w) (h : galleylaw05_fixed.f = some r) :
    Calls Tryd.prog 10 #[] w fun e w' => e = .returned (.bool r) ∧ Below w.heap.size w w' := by
  obtain rfl : true = r := Option.some.inj h
  clear h
  have HG := Lib.hid hG
  clear hG
  have kc := fun (w : World) (C : Array Value) (n c : Nat) => Lib.run_convert_bytes_const (P := Tryd.prog) w 29 5 C n c Tryd.underlying29 Tryd.underlying5
  go_enter Tryd.func10, Tryd.ntmps10
  go_wp2_with fail
  refine (weld_Of.calls _ 2 [240, 159] 2 2 2 0 _ _ _ (Glob.Globs_alloc HG.out _) (C_lit w 5 [240, 159] (2, 3) (by decide)) (by decide) fx1).mono ?_
  rintro e w1 ⟨rfl, hb1⟩
  have B1 : Below w.heap.size w w1 := below_step ((Below.refl _ w).alloc (Nat.le_refl _) _) hb1
  have BB1 := Lib.hid B1
  clear B1 hb1
  go_wp2_with fail
  refine (weld_Of.calls _ 3 [152, 128, 13] 3 3 3 1 _ _ _ (Glob.Globs_alloc (Glob.Globs_below HG.out BB1.out) _) (C_lit w1 5 [152, 128, 13] (3, 4) (by decide)) (by decide) fx2).mono ?_
  rintro e w2 ⟨rfl, hb2⟩
  have B2 : Below w.heap.size w w2 := below_step (BB1.out.alloc BB1.out.size _) hb2
  have BB2 := Lib.hid B2
  clear B2 hb2
  go_wp2_with fail
  refine (weld_Join.calls 30 2 2 2 0 _ _ 3 3 3 1 _ _ 5 2 3 1 _ _ 0 _ ?gj fx3).mono ?_
  case gj => repeat (first | exact Glob.Globs_below HG.out BB2.out | (with_reducible refine Glob.Globs_alloc ?_ _))
  rintro e w3 ⟨rfl, hb3⟩
  have ha := (hb3.block _ (by simp; omega)).trans (blk_alloc (blk_new w2 _) _)
  have hB := (hb3.block _ (by simp)).trans (blk_new (w2.alloc _) _)
  simp only [World.size_alloc] at hB
  have B3 := Lib.hid (below_step ((BB2.out.alloc BB2.out.size _).alloc (Nat.le_trans BB2.out.size (by simp)) _) hb3)
  have hsz : w2.heap.size < w3.heap.size := by have := hb3.size; simp at this; omega
  have hsz1 : w2.heap.size + 1 < w3.heap.size := by have := hb3.size; simp at this; omega
  clear hb3
  have HA := Lib.hid ha
  have HBB := Lib.hid hB
  obtain ⟨a1, a2, a3, a4, a5, a6⟩ := weld_cells ha
  obtain ⟨b1, b2, b3, b4, b5, b6⟩ := weld_cells hB
  clear ha hB
  go_wp2_with fail
  refine (weld_Seam.calls 30 2 2 2 0 _ _ 3 3 3 1 _ _ 0 3 2 0 0 _ ?gj2 fx4).mono ?_
  case gj2 => repeat (first | exact Glob.Globs_below HG.out B3.out | (with_reducible refine Glob.Globs_alloc ?_ _))
  rintro e w4 ⟨rfl, hb4⟩
  have hA4 := (hb4.block _ (by simp; omega)).trans (blk_alloc HA.out _)
  have hC4 := (hb4.block _ (by simp)).trans (blk_new w3 _)
  have B4 := Lib.hid (below_step (B3.out.alloc B3.out.size _) hb4)
  have hsz4 : w3.heap.size < w4.heap.size := by have := hb4.size; simp at this; omega
  have hsz5 : w2.heap.size < w4.heap.size := by omega
  clear hb4 a1 a2 a3 a4 a5 a6 b1 b2 b3 b4 b5 b6
  have HC4 := Lib.hid hC4
  obtain ⟨a1, a2, a3, a4, a5, a6⟩ := weld_cells hA4
  obtain ⟨c1, c2, c3, c4, c5, c6⟩ := weld_cells hC4
  clear hA4 hC4
  go_wp2_with fail
  refine (weld_Valid.calls 30 5 2 3 1 _ _ true _ ?gj3 fx5).mono ?_
  case gj3 => repeat (first | exact Glob.Globs_below HG.out B4.out | (with_reducible refine Glob.Globs_alloc ?_ _))
  rintro e w5 ⟨rfl, hb5⟩
  have B5 := Lib.hid (below_step (B4.out.alloc B4.out.size _) hb5)
  clear hb5
  go_wp2_with fail
  go_ret
  exact ⟨rfl, B5.out⟩
end Go.Proofs.YtaojbcplmdjfnaaDoor.Pr

namespace Go.Proofs.YtaojbcplmdjfnaaDoor.PuSm
open Go.RowKit Go.Proofs.YtaojbcplmdjfnaaDoor.Pr Go.Proofs.YtaojbcplmdjfnaaDoor.Math Go.Proofs.YtaojbcplmdjfnaaDoor.Ev Go.Proofs.YtaojbcplmdjfnaaDoor.PuSz Go.Proofs.YtaojbcplmdjfnaaDoor.PuMs Go.Proofs.YtaojbcplmdjfnaaDoorW.PrintWords Go.Proofs.YtaojbcplmdjfnaaDoorW.PrintLast Go.Proofs.YtaojbcplmdjfnaaDoorW.PrintMore
set_option linter.unusedVariables false
set_option linter.unusedSimpArgs false
def uL (n : Nat) : Int := if n = 4 then 2 else 1
theorem uL_range (n : Nat) : 1 ≤ uL n ∧ uL n ≤ 2 := by unfold uL; split <;> omega
def swI (k L : Nat) (p : Int × Int) : Int × Int := if k < L then ((L : Int) - 1, (L : Int) - uL L) else p
theorem seamR_swI (A B : List Int) (k : Nat) (h1 : 1 ≤ k) (h2 : k ≤ A.length) : seamR (A.drop (A.length - k)) B = swI k (lg (A.drop (A.length - k) ++ B)) (seamR (A.drop (A.length - (k - 1))) B) := by
  have hd : A.drop (A.length - k) = A[A.length - k] :: A.drop (A.length - (k - 1)) := by
    rw [List.drop_eq_getElem_cons (show A.length - k < A.length by omega), show A.length - k + 1 = A.length - (k - 1) by omega]
  rw [hd, seamR]
  unfold swI uL
  have hl : (A.drop (A.length - (k - 1))).length + 1 = k := by rw [List.length_drop]; omega
  rw [hl]
theorem cut_lg (S B : List Int) (hS : 1 ≤ S.length) (j : Nat) (h1 : 1 ≤ j) (h2 : j ≤ B.length) : lg (S ++ B.take j) = S.length + j ↔ lg (S ++ B) = S.length + j := by
  have e : S ++ B = (S ++ B.take j) ++ B.drop j := by rw [List.append_assoc, List.take_append_drop]
  constructor
  · intro h
    rw [e, lg_append _ _ (by omega), h]
  · intro h
    rw [e] at h
    rw [lg_of_append (S ++ B.take j) (B.drop j) (by omega) (by rw [h, List.length_append, List.length_take]; omega), h]
theorem bt_bo (s : ByteArray) (i : Int) (h : i.toNat < s.size) : bt s i = (bytesOf s).getD i.toNat (-1) := by
  rw [← rd_bytesOf, rd_getD _ _ (by rw [bytesOf_length]; exact h)]
def cutS (A B : List Int) (k j : Nat) : List Int := A.drop (A.length - k) ++ B.take j
theorem cutS_len (A B : List Int) (k j : Nat) (h : k ≤ A.length) (h' : j ≤ B.length) : (cutS A B k j).length = k + j := by unfold cutS; rw [List.length_append, List.length_drop, List.length_take]; omega
theorem cutS_byt {A B : List Int} (hA : Byt A) (hB : Byt B) (k j : Nat) : Byt (cutS A B k j) := (hA.drop _).append (hB.take _)
theorem cutS_lg (A B : List Int) (k j : Nat) (h1 : 1 ≤ k) (h2 : k ≤ A.length) (h3 : 1 ≤ j) (h4 : j ≤ B.length) : lg (cutS A B k j) = k + j ↔ lg (A.drop (A.length - k) ++ B) = k + j := by
  have e : (A.drop (A.length - k)).length = k := by rw [List.length_drop]; omega
  have := cut_lg (A.drop (A.length - k)) B (by omega) j h3 h4
  rw [e] at this
  exact this
theorem cutS_ba (s t : ByteArray) (k j : Nat) (h : k ≤ s.size) : bytesOf (s.extract (((s.size - k : Nat) : Int)).toNat s.size ++ t.extract 0 ((j : Int)).toNat) = cutS (bytesOf s) (bytesOf t) k j := by
  rw [bo_append, Int.toNat_natCast, Int.toNat_natCast, ex_tail, bo_extract, List.drop_zero, Nat.sub_zero, bytesOf_length s |>.symm]
  rfl
section
variable (a0 a1 a2 a3 b0 b1 b2 b3 : Int) (aH aT bH bT : ByteArray)
theorem w_l1_next (k kk j : Nat) (z1 z2 : Int) (h1 : 1 ≤ kk) (h2 : kk ≤ aT.size) (h3 : 1 ≤ j) (h4 : j ≤ bH.size) (hs : aT.size ≤ 3) (ht : bH.size ≤ 3) :
    weld_seam.l1 (k + 10) kk j a0 a1 a2 a3 aH aT b0 b1 b2 b3 bH bT 0 z1 z2 0 =
      (if lg ((bytesOf aT).drop (aT.size - kk) ++ bytesOf bH) = kk + j then weld_seam.l1 (k + 9) kk ((j + 1 : Nat) : Int) a0 a1 a2 a3 aH aT b0 b1 b2 b3 bH bT 0 ((kk + j : Nat) - 1) ((kk + j : Nat) - uL (kk + j)) 0
       else weld_seam.l1 (k + 9) kk ((j + 1 : Nat) : Int) a0 a1 a2 a3 aH aT b0 b1 b2 b3 bH bT 0 z1 z2 0) := by
  have hB := bo_byt bH
  have hA := bo_byt aT
  have hl := cutS_len (bytesOf aT) (bytesOf bH) kk j (by rw [bytesOf_length]; exact h2) (by rw [bytesOf_length]; exact h4)
  have hne : cutS (bytesOf aT) (bytesOf bH) kk j ≠ [] := fun h => by rw [h] at hl; simp at hl; omega
  have hv := val_lg _ (cutS_byt hA hB kk j) hne
  have hc := cutS_lg (bytesOf aT) (bytesOf bH) kk j h1 (by rw [bytesOf_length]; exact h2) h3 (by rw [bytesOf_length]; exact h4)
  rw [bytesOf_length] at hc
  rw [hl, hc] at hv
  have e1 : wrap64 ((aT.size : Int) - (kk : Int)) = ((aT.size - kk : Nat) : Int) := by rw [w64 (by omega) (by omega)]; omega
  have e2 : wrap64 ((j : Int) + 1) = ((j + 1 : Nat) : Int) := by rw [w64 (by omega) (by omega)]; rfl
  have e3 : wrap64 ((kk : Int) + (j : Int)) = ((kk + j : Nat) : Int) := by rw [w64 (by omega) (by omega)]; omega
  have hcb := cutS_ba aT bH kk j h2
  have hvr := val_range (cutS (bytesOf aT) (bytesOf bH) kk j) (cutS_byt hA hB kk j)
  rw [weld_seam.l1, if_pos (by omega), e1, if_pos (by omega), if_pos (by omega), if_pos (by omega)]
  rw [if_pos (by rw [ByteArray.size_extract, ByteArray.size_extract]; omega), if_pos (by rw [← bytesOf_length, hcb, hl]; omega), hcb, o_Value k _ (cutS_byt hA hB kk j), Option.bind_some, e2, e3]
  by_cases hg : lg ((bytesOf aT).drop (aT.size - kk) ++ bytesOf bH) = kk + j
  · rw [if_pos hg, if_pos (hv.1.2 hg)]
    have hu : weld_units.f (val (cutS (bytesOf aT) (bytesOf bH) kk j)) = some (uL (kk + j)) := by
      unfold weld_units.f uL
      have h5 := hv.2 hg
      rw [hc.2 hg] at h5
      by_cases h6 : kk + j = 4
      · rw [if_pos (h5.2 h6), if_pos h6]
      · rw [if_neg (fun c => h6 (h5.1 c)), if_neg h6]
    have hur := uL_range (kk + j)
    rw [hu, Option.bind_some, w64 (n := ((kk + j : Nat) : Int) - 1) (by omega) (by omega), w64 (n := ((kk + j : Nat) : Int) - uL (kk + j)) (by omega) (by omega)]
  · rw [if_neg hg, if_neg (fun c => hg (hv.1.1 c))]
theorem w_l1_end (k kk j : Nat) (z1 z2 : Int) (h1 : kk ≤ 3) (h : bH.size < j) : weld_seam.l1 (k + 1) kk j a0 a1 a2 a3 aH aT b0 b1 b2 b3 bH bT 0 z1 z2 0 = weld_seam.l0 k ((kk + 1 : Nat) : Int) a0 a1 a2 a3 aH aT b0 b1 b2 b3 bH bT 0 z1 z2 0 := by
  rw [weld_seam.l1, if_neg (by omega), w64 (by omega) (by omega)]
  rfl
theorem w_l1 (kk : Nat) (h1 : 1 ≤ kk) (h2 : kk ≤ aT.size) (hs : aT.size ≤ 3) (ht : bH.size ≤ 3) (p : Int × Int) (L : Nat) (hL : lg ((bytesOf aT).drop (aT.size - kk) ++ bytesOf bH) = L) (d : Nat) :
    ∀ (k j : Nat) (z : Int × Int), 1 ≤ j → j + d = bH.size + 1 → z = (if kk < L ∧ L - kk < j then ((L : Int) - 1, (L : Int) - uL L) else p) →
      weld_seam.l1 (k + 10 + d) kk j a0 a1 a2 a3 aH aT b0 b1 b2 b3 bH bT 0 z.1 z.2 0 = weld_seam.l0 (k + 9) ((kk + 1 : Nat) : Int) a0 a1 a2 a3 aH aT b0 b1 b2 b3 bH bT 0 (swI kk L p).1 (swI kk L p).2 0 := by
  have hll : L ≤ kk + bH.size := by
    have := lg_len ((bytesOf aT).drop (aT.size - kk) ++ bytesOf bH)
    rw [hL, List.length_append, List.length_drop, bytesOf_length, bytesOf_length] at this
    omega
  induction d with
  | zero =>
    intro k j z hj hd hz
    rw [show k + 10 + 0 = (k + 9) + 1 from rfl, w_l1_end a0 a1 a2 a3 b0 b1 b2 b3 aH aT bH bT (k + 9) kk j z.1 z.2 (by omega) (by omega)]
    have : z = swI kk L p := by
      rw [hz]
      unfold swI
      by_cases h : kk < L
      · rw [if_pos ⟨h, by omega⟩, if_pos h]
      · rw [if_neg (fun c => h c.1), if_neg h]
    rw [this]
  | succ d ih =>
    intro k j z hj hd hz
    have hn := w_l1_next a0 a1 a2 a3 b0 b1 b2 b3 aH aT bH bT (k + d + 1) kk j z.1 z.2 h1 h2 hj (by omega) hs ht
    rw [show k + 10 + (d + 1) = k + d + 1 + 10 by omega, hn, hL]
    by_cases hg : L = kk + j
    · rw [if_pos hg, ← hg]
      have := ih k (j + 1) ((L : Int) - 1, (L : Int) - uL L) (by omega) (by omega) (by rw [if_pos ⟨by omega, by omega⟩])
      rw [show k + d + 1 + 9 = k + 10 + d by omega]
      exact this
    · rw [if_neg hg]
      have := ih k (j + 1) z (by omega) (by omega) (by
        rw [hz]
        by_cases h : kk < L ∧ L - kk < j
        · rw [if_pos h, if_pos ⟨h.1, by omega⟩]
        · rw [if_neg h, if_neg (fun c => h ⟨c.1, by omega⟩)])
      rw [show k + d + 1 + 9 = k + 10 + d by omega]
      exact this
theorem w_l0_end (k kk : Nat) (z1 z2 : Int) (h : aT.size < kk) (hs : aT.size ≤ 3) (ht : bH.size ≤ 3) : weld_seam.l0 (k + 1) kk a0 a1 a2 a3 aH aT b0 b1 b2 b3 bH bT 0 z1 z2 0 = some (0, z1, z2, seamE (bytesOf aT) (bytesOf bH)) := by
  rw [weld_seam.l0, if_neg (by omega)]
  unfold weld_tailIs.f seamE
  rw [bytesOf_length]
  by_cases ha : (aT.size : Int) > 0
  · have e : wrap64 ((aT.size : Int) - 1) = ((aT.size - 1 : Nat) : Int) := by rw [w64 (by omega) (by omega)]; omega
    rw [if_pos ha, e, if_pos (by omega), if_pos (by omega), Option.bind_some, bt_bo aT _ (by simp; omega)]
    simp only [Int.toNat_natCast, beq_iff_eq]
    by_cases h13 : (bytesOf aT).getD (aT.size - 1) (-1) = 13
    · rw [if_pos h13]
      by_cases hb : (bH.size : Int) > 0
      · rw [if_pos hb, if_pos (by omega), bt_bo bH _ (by simp; omega)]
        simp only [Int.toNat_zero]
        by_cases h10 : (bytesOf bH).getD 0 (-1) = 10
        · rw [if_pos h10, if_pos ⟨h13, h10⟩]
        · rw [if_neg h10, if_neg (fun c => h10 c.2)]
      · rw [if_neg hb, if_neg (fun c => by rw [getD_m1 _ 0 (by rw [bytesOf_length]; omega)] at c; omega)]
    · rw [if_neg h13, if_neg (fun c => h13 c.1)]
  · rw [if_neg ha, Option.bind_some, if_neg (by decide), if_neg (fun c => by rw [getD_m1 _ _ (by rw [bytesOf_length]; omega)] at c; omega)]
theorem w_l0 (hs : aT.size ≤ 3) (ht : bH.size ≤ 3) (d : Nat) : ∀ (k kk : Nat) (z : Int × Int), 1 ≤ kk → kk + d = aT.size + 1 → z = seamR ((bytesOf aT).drop (aT.size - (kk - 1))) (bytesOf bH) →
    weld_seam.l0 (k + 20 + 20 * d) kk a0 a1 a2 a3 aH aT b0 b1 b2 b3 bH bT 0 z.1 z.2 0 = some (0, (seamR (bytesOf aT) (bytesOf bH)).1, (seamR (bytesOf aT) (bytesOf bH)).2, seamE (bytesOf aT) (bytesOf bH)) := by
  induction d with
  | zero =>
    intro k kk z hk hd hz
    rw [show k + 20 + 20 * 0 = (k + 19) + 1 by omega, w_l0_end a0 a1 a2 a3 b0 b1 b2 b3 aH aT bH bT _ kk z.1 z.2 (by omega) hs ht, hz, show aT.size - (kk - 1) = 0 by omega, List.drop_zero]
  | succ d ih =>
    intro k kk z hk hd hz
    have hsw := seamR_swI (bytesOf aT) (bytesOf bH) kk hk (by rw [bytesOf_length]; omega)
    rw [bytesOf_length, ← hz] at hsw
    have h1 := w_l1 a0 a1 a2 a3 b0 b1 b2 b3 aH aT bH bT kk hk (by omega) hs ht z _ rfl bH.size (k + 20 + 20 * d + 9 - bH.size) 1 z (by omega) (by omega) (by rw [if_neg (by omega)])
    have h2 := ih (k + 18 - bH.size) (kk + 1) _ (by omega) (by omega) hsw.symm
    rw [show k + 20 + 20 * (d + 1) = (k + 20 + 20 * d + 9 - bH.size + 10 + bH.size) + 1 by omega, weld_seam.l0, if_pos (by omega)]
    rw [show (1 : Int) = ((1 : Nat) : Int) from rfl, h1, show k + 20 + 20 * d + 9 - bH.size + 9 = k + 18 - bH.size + 20 + 20 * d by omega]
    exact h2
theorem wSeam_eq (k : Nat) (hs : aT.size ≤ 3) (ht : bH.size ≤ 3) (hk : 80 ≤ k) : weld_seam.f k a0 a1 a2 a3 aH aT b0 b1 b2 b3 bH bT = some (0, (seamR (bytesOf aT) (bytesOf bH)).1, (seamR (bytesOf aT) (bytesOf bH)).2, seamE (bytesOf aT) (bytesOf bH)) := by
  unfold weld_seam.f
  have h := w_l0 a0 a1 a2 a3 b0 b1 b2 b3 aH aT bH bT hs ht aT.size (k - 20 - 20 * aT.size) 1 (0, 0) (by omega) (by omega) (by rw [Nat.sub_self, Nat.sub_zero, List.drop_of_length_le (by rw [bytesOf_length]; omega)]; rfl)
  rw [show k - 20 - 20 * aT.size + 20 + 20 * aT.size = k by omega] at h
  exact h
end
end Go.Proofs.YtaojbcplmdjfnaaDoor.PuSm

namespace Go.Proofs.YtaojbcplmdjfnaaDoor.PuJn
open Go.RowKit Go.Proofs.YtaojbcplmdjfnaaDoor.Pr Go.Proofs.YtaojbcplmdjfnaaDoor.Math Go.Proofs.YtaojbcplmdjfnaaDoor.Ev Go.Proofs.YtaojbcplmdjfnaaDoor.PuSz Go.Proofs.YtaojbcplmdjfnaaDoor.PuMs Go.Proofs.YtaojbcplmdjfnaaDoor.PuSm Go.Proofs.YtaojbcplmdjfnaaDoorW.PrintWords Go.Proofs.YtaojbcplmdjfnaaDoorW.PrintLast Go.Proofs.YtaojbcplmdjfnaaDoorW.PrintMore
set_option linter.unusedVariables false
set_option linter.unusedSimpArgs false
def R64 (x : Int) : Prop := -9223372036854775808 ≤ x ∧ x ≤ 9223372036854775807
def vM (a : Ms) : Bool := vldB a.1 a.2.1 a.2.2.1 a.2.2.2.1 (bytesOf a.2.2.2.2.1) (bytesOf a.2.2.2.2.2)
theorem vld_range {n r u e : Int} {H T : List Int} (h : vldB n r u e H T = true) : (0 ≤ n ∧ n ≤ 268435456) ∧ (0 ≤ r ∧ r ≤ n) ∧ (0 ≤ u ∧ u ≤ 2 * n) ∧ (0 ≤ e ∧ e ≤ n) ∧ (H.length : Int) = min 3 n ∧ (T.length : Int) = min 3 n := by
  by_cases hc : n < 0 ∨ n > 268435456 ∨ (H.length : Int) ≠ min 3 n ∨ (T.length : Int) ≠ min 3 n
  · unfold vldB at h; rw [if_pos hc] at h; cases h
  · have hn : 0 ≤ n ∧ n ≤ 268435456 := by omega
    have hh : (H.length : Int) = min 3 n := by omega
    have ht : (T.length : Int) = min 3 n := by omega
    rw [vldB_in n r u e H T hn hh ht] at h
    refine ⟨hn, ?_⟩
    by_cases h6 : n ≤ 6
    · rw [if_pos h6, Bool.and_eq_true, decide_eq_true_eq, decide_eq_true_eq] at h
      obtain ⟨h1, h2, h3, h4⟩ := h
      have hs := ends_six n.toNat (by omega) H T (by omega) (by omega) h1
      generalize H ++ T.drop (H.length + T.length - n.toNat) = B at *
      have q1 := rn_bounds' B
      have q2 := en_bounds' B 0
      omega
    · rw [if_neg h6, decide_eq_true_eq] at h
      omega
def jnM (a b : Ms) : Ms :=
  (a.1 + b.1, a.2.1 + b.2.1 - (seamR (bytesOf a.2.2.2.2.2) (bytesOf b.2.2.2.2.1)).1, a.2.2.1 + b.2.2.1 - (seamR (bytesOf a.2.2.2.2.2) (bytesOf b.2.2.2.2.1)).2, a.2.2.2.1 + b.2.2.2.1 - seamE (bytesOf a.2.2.2.2.2) (bytesOf b.2.2.2.2.1),
    if a.1 < 3 then strOfNums ((bytesOf a.2.2.2.2.1 ++ bytesOf b.2.2.2.2.1).take 3) else a.2.2.2.2.1,
    if b.1 < 3 then strOfNums ((bytesOf a.2.2.2.2.2 ++ bytesOf b.2.2.2.2.2).drop (a.2.2.2.2.2.size + b.2.2.2.2.2.size - 3)) else b.2.2.2.2.2)
def erM (a b : Ms) : Int := if vM a = true ∧ vM b = true then (if a.1 + b.1 > 268435456 then 5 else if vM (jnM a b) = true then 0 else 50) else 50
def joM (a b : Ms) : Ms := if erM a b = 0 then jnM a b else m0
def smM (a b : Ms) : Int × Int × Int := if erM a b = 0 then ((seamR (bytesOf a.2.2.2.2.2) (bytesOf b.2.2.2.2.1)).1, (seamR (bytesOf a.2.2.2.2.2) (bytesOf b.2.2.2.2.1)).2, seamE (bytesOf a.2.2.2.2.2) (bytesOf b.2.2.2.2.1)) else (0, 0, 0)
theorem er_bad {a b : Ms} (h : ¬ (vM a = true ∧ vM b = true)) : erM a b = 50 := by unfold erM; rw [if_neg h]
theorem er_long {a b : Ms} (h : vM a = true ∧ vM b = true) (h' : a.1 + b.1 > 268435456) : erM a b = 5 := by unfold erM; rw [if_pos h, if_pos h']
theorem er_fine {a b : Ms} (h : vM a = true ∧ vM b = true) (h' : ¬ a.1 + b.1 > 268435456) (h2 : vM (jnM a b) = true) : erM a b = 0 := by unfold erM; rw [if_pos h, if_neg h', if_pos h2]
theorem er_not {a b : Ms} (h : vM a = true ∧ vM b = true) (h' : ¬ a.1 + b.1 > 268435456) (h2 : vM (jnM a b) = false) : erM a b = 50 := by unfold erM; rw [if_pos h, if_neg h', if_neg (by rw [h2]; decide)]
section
variable (a0 a1 a2 a3 b0 b1 b2 b3 : Int) (aH aT bH bT : ByteArray)
theorem sum_eq (p0 p1 p2 p3 q0 q1 q2 q3 t : Int) (ht : t = 1 ∨ t = -1) (h0 : 0 ≤ p0 ∧ p0 ≤ 4294967296) (h1 : 0 ≤ p1 ∧ p1 ≤ 4294967296) (h2 : 0 ≤ p2 ∧ p2 ≤ 4294967296) (h3 : 0 ≤ p3 ∧ p3 ≤ 4294967296)
    (g0 : 0 ≤ q0 ∧ q0 ≤ 4294967296) (g1 : 0 ≤ q1 ∧ q1 ≤ 4294967296) (g2 : 0 ≤ q2 ∧ q2 ≤ 4294967296) (g3 : 0 ≤ q3 ∧ q3 ≤ 4294967296) : weld_sum.f p0 p1 p2 p3 q0 q1 q2 q3 t = some (p0 + t * q0, p1 + t * q1, p2 + t * q2, p3 + t * q3) := by
  unfold weld_sum.f
  rcases ht with rfl | rfl
  · simp only [Int.one_mul]
    rw [w64 (n := q0) (by omega) (by omega), w64 (n := q1) (by omega) (by omega), w64 (n := q2) (by omega) (by omega), w64 (n := q3) (by omega) (by omega), w64 (by omega) (by omega), w64 (by omega) (by omega), w64 (by omega) (by omega), w64 (by omega) (by omega)]
  · simp only [Int.neg_mul, Int.one_mul]
    rw [w64 (n := -q0) (by omega) (by omega), w64 (n := -q1) (by omega) (by omega), w64 (n := -q2) (by omega) (by omega), w64 (n := -q3) (by omega) (by omega), w64 (by omega) (by omega), w64 (by omega) (by omega), w64 (by omega) (by omega), w64 (by omega) (by omega)]
def jT (b0 : Int) (aT bT : ByteArray) : ByteArray := if b0 < 3 then strOfNums ((bytesOf aT ++ bytesOf bT).drop (aT.size + bT.size - 3)) else bT
def jH (a0 : Int) (aH bH : ByteArray) : ByteArray := if a0 < 3 then strOfNums ((bytesOf aH ++ bytesOf bH).take 3) else aH
theorem j1_eq (k : Nat) (r0 r1 r2 r3 s0 s1 s2 s3 : Int) (h : ByteArray) (hr1 : R64 r1) (hr2 : R64 r2) (ha : aT.size ≤ 3) (hb : bT.size ≤ 3) :
    weld_both.j1 (k + 2) a0 a1 a2 a3 aH aT b0 b1 b2 b3 bH bT s0 s1 s2 s3 r0 r1 r2 r3 h bT = some (if vM (r0, r1, r2, r3, h, jT b0 aT bT) = true then (r0, r1, r2, r3, h, jT b0 aT bT, s0, s1, s2, s3, 0) else (0, 0, 0, 0, ⟨#[]⟩, ⟨#[]⟩, 0, 0, 0, 0, 50)) := by
  rw [weld_both.j1]
  unfold jT
  by_cases h3 : b0 < 3
  · rw [if_pos h3, if_pos (by omega), tail_eq _ (by rw [← bytesOf_length, bo_append, List.length_append, bytesOf_length, bytesOf_length]; omega), Option.bind_some, if_pos h3]
    have hsz : (aT ++ bT).size = aT.size + bT.size := by rw [← bytesOf_length, bo_append, List.length_append, bytesOf_length, bytesOf_length]
    rw [bo_append, hsz, weldValid_eq k _ _ _ _ _ _ hr1 hr2, Option.bind_some]
    unfold vM
    dsimp only
    split <;> rfl
  · rw [if_neg h3, if_neg h3, weldValid_eq k _ _ _ _ _ _ hr1 hr2, Option.bind_some]
    unfold vM
    dsimp only
    split <;> rfl
set_option maxHeartbeats 2000000 in
theorem both_eq (k : Nat) (hk : 120 ≤ k) (ha1 : R64 a1) (ha2 : R64 a2) (hb1 : R64 b1) (hb2 : R64 b2) :
    weld_both.f k a0 a1 a2 a3 aH aT b0 b1 b2 b3 bH bT = some ((joM (a0, a1, a2, a3, aH, aT) (b0, b1, b2, b3, bH, bT)).1, (joM (a0, a1, a2, a3, aH, aT) (b0, b1, b2, b3, bH, bT)).2.1, (joM (a0, a1, a2, a3, aH, aT) (b0, b1, b2, b3, bH, bT)).2.2.1, (joM (a0, a1, a2, a3, aH, aT) (b0, b1, b2, b3, bH, bT)).2.2.2.1, (joM (a0, a1, a2, a3, aH, aT) (b0, b1, b2, b3, bH, bT)).2.2.2.2.1, (joM (a0, a1, a2, a3, aH, aT) (b0, b1, b2, b3, bH, bT)).2.2.2.2.2,
      0, (smM (a0, a1, a2, a3, aH, aT) (b0, b1, b2, b3, bH, bT)).1, (smM (a0, a1, a2, a3, aH, aT) (b0, b1, b2, b3, bH, bT)).2.1, (smM (a0, a1, a2, a3, aH, aT) (b0, b1, b2, b3, bH, bT)).2.2, erM (a0, a1, a2, a3, aH, aT) (b0, b1, b2, b3, bH, bT)) := by
  obtain ⟨k, rfl⟩ : ∃ m, k = m + 120 := ⟨k - 120, by omega⟩
  generalize hA : ((a0, a1, a2, a3, aH, aT) : Ms) = A
  generalize hB : ((b0, b1, b2, b3, bH, bT) : Ms) = B
  have vA : vldB a0 a1 a2 a3 (bytesOf aH) (bytesOf aT) = vM A := by rw [← hA]; rfl
  have vB : vldB b0 b1 b2 b3 (bytesOf bH) (bytesOf bT) = vM B := by rw [← hB]; rfl
  have hbad : ∀ x : Bool, x = true → ¬ (vM A = true ∧ vM B = true) → weld_both.j0 (k + 120) x a0 a1 a2 a3 aH aT b0 b1 b2 b3 bH bT = some ((joM A B).1, (joM A B).2.1, (joM A B).2.2.1, (joM A B).2.2.2.1, (joM A B).2.2.2.2.1, (joM A B).2.2.2.2.2, 0, (smM A B).1, (smM A B).2.1, (smM A B).2.2, erM A B) := by
    intro x hx hv
    have he := er_bad hv
    have hj : joM A B = m0 := by unfold joM; rw [he]; rfl
    have hs : smM A B = (0, 0, 0) := by unfold smM; rw [he]; rfl
    rw [hj, hs, he, weld_both.j0, if_pos hx]
    rfl
  unfold weld_both.f
  rw [weldValid_eq (k + 119) a0 a1 a2 a3 aH aT ha1 ha2, vA, Option.bind_some]
  by_cases hva : vM A = true
  · rw [if_pos hva, weldValid_eq (k + 119) b0 b1 b2 b3 bH bT hb1 hb2, vB, Option.bind_some]
    by_cases hvb : vM B = true
    · have rA := vld_range (vA.trans hva)
      have rB := vld_range (vB.trans hvb)
      rw [bytesOf_length, bytesOf_length] at rA rB
      have hAB : A.1 = a0 ∧ B.1 = b0 := by rw [← hA, ← hB]; exact ⟨rfl, rfl⟩
      rw [weld_both.j0, hvb, if_neg (by decide), w64 (n := a0 + b0) (by omega) (by omega)]
      by_cases hlong : a0 + b0 > 268435456
      · have he := er_long ⟨hva, hvb⟩ (show A.1 + B.1 > 268435456 by rw [hAB.1, hAB.2]; exact hlong)
        have hj : joM A B = m0 := by unfold joM; rw [he]; rfl
        have hs : smM A B = (0, 0, 0) := by unfold smM; rw [he]; rfl
        rw [if_pos hlong, hj, hs, he]
        rfl
      · have hnl : ¬ A.1 + B.1 > 268435456 := by rw [hAB.1, hAB.2]; exact hlong
        have sr := seamR_range (bytesOf aT) (bytesOf bH)
        have se := seamE_range (bytesOf aT) (bytesOf bH)
        rw [if_neg hlong, wSeam_eq a0 a1 a2 a3 b0 b1 b2 b3 aH aT bH bT (k + 119) (by omega) (by omega) (by omega), Option.bind_some]
        dsimp only
        rw [sum_eq a0 a1 a2 a3 b0 b1 b2 b3 1 (.inl rfl) (by omega) (by omega) (by omega) (by omega) (by omega) (by omega) (by omega) (by omega), Option.bind_some]
        dsimp only
        have e0 : weld_sum.f (a0 + 1 * b0) (a1 + 1 * b1) (a2 + 1 * b2) (a3 + 1 * b3) 0 (seamR (bytesOf aT) (bytesOf bH)).1 (seamR (bytesOf aT) (bytesOf bH)).2 (seamE (bytesOf aT) (bytesOf bH)) (-1) = some (a0 + b0, a1 + b1 - (seamR (bytesOf aT) (bytesOf bH)).1, a2 + b2 - (seamR (bytesOf aT) (bytesOf bH)).2, a3 + b3 - seamE (bytesOf aT) (bytesOf bH)) := by
          rw [sum_eq _ _ _ _ _ _ _ _ (-1) (.inr rfl) (by omega) (by omega) (by omega) (by omega) (by omega) (by omega) (by omega) (by omega)]
          congr 1
          simp only [Int.one_mul, Int.neg_mul, Int.neg_zero, Int.add_zero, Int.sub_eq_add_neg]
        rw [e0, Option.bind_some]
        dsimp only
        have hj := j1_eq a0 a1 a2 a3 b0 b1 b2 b3 aH aT bH bT (k + 117) (a0 + b0) (a1 + b1 - (seamR (bytesOf aT) (bytesOf bH)).1) (a2 + b2 - (seamR (bytesOf aT) (bytesOf bH)).2) (a3 + b3 - seamE (bytesOf aT) (bytesOf bH)) 0 (seamR (bytesOf aT) (bytesOf bH)).1 (seamR (bytesOf aT) (bytesOf bH)).2 (seamE (bytesOf aT) (bytesOf bH)) (jH a0 aH bH) ⟨by omega, by omega⟩ ⟨by omega, by omega⟩ (by omega) (by omega)
        have hJ : jnM A B = (a0 + b0, a1 + b1 - (seamR (bytesOf aT) (bytesOf bH)).1, a2 + b2 - (seamR (bytesOf aT) (bytesOf bH)).2, a3 + b3 - seamE (bytesOf aT) (bytesOf bH), jH a0 aH bH, jT b0 aT bT) := by rw [← hA, ← hB]; rfl
        rw [← hJ] at hj
        have hgo : weld_both.j1 (k + 119) a0 a1 a2 a3 aH aT b0 b1 b2 b3 bH bT 0 (seamR (bytesOf aT) (bytesOf bH)).1 (seamR (bytesOf aT) (bytesOf bH)).2 (seamE (bytesOf aT) (bytesOf bH)) (a0 + b0) (a1 + b1 - (seamR (bytesOf aT) (bytesOf bH)).1) (a2 + b2 - (seamR (bytesOf aT) (bytesOf bH)).2) (a3 + b3 - seamE (bytesOf aT) (bytesOf bH)) (jH a0 aH bH) bT =
            some ((joM A B).1, (joM A B).2.1, (joM A B).2.2.1, (joM A B).2.2.2.1, (joM A B).2.2.2.2.1, (joM A B).2.2.2.2.2, 0, (smM A B).1, (smM A B).2.1, (smM A B).2.2, erM A B) := by
          rw [hj]
          by_cases hvj : vM (jnM A B) = true
          · have he := er_fine ⟨hva, hvb⟩ hnl hvj
            have hjo : joM A B = jnM A B := by unfold joM; rw [if_pos he]
            have hs : smM A B = ((seamR (bytesOf aT) (bytesOf bH)).1, (seamR (bytesOf aT) (bytesOf bH)).2, seamE (bytesOf aT) (bytesOf bH)) := by unfold smM; rw [if_pos he, ← hA, ← hB]
            rw [if_pos hvj, hjo, hs, he, hJ]
          · have he := er_not ⟨hva, hvb⟩ hnl (by simpa using hvj)
            have hjo : joM A B = m0 := by unfold joM; rw [he]; rfl
            have hs : smM A B = (0, 0, 0) := by unfold smM; rw [he]; rfl
            rw [if_neg hvj, hjo, hs, he]
            rfl
        rw [← hgo]
        by_cases h3 : a0 < 3
        · rw [if_pos h3, if_pos (by omega), head_eq', Option.bind_some, bo_append]
          unfold jH
          rw [if_pos h3]
        · rw [if_neg h3]
          unfold jH
          rw [if_neg h3]
    · rw [Bool.not_eq_true] at hvb
      rw [hvb]
      exact hbad _ rfl (fun c => by rw [hvb] at c; cases c.2)
  · rw [if_neg hva]
    exact hbad _ rfl (fun c => hva c.1)
theorem wJoin_eq (k : Nat) (hk : 120 ≤ k) (ha1 : R64 a1) (ha2 : R64 a2) (hb1 : R64 b1) (hb2 : R64 b2) :
    weld_Join.f k a0 a1 a2 a3 aH aT b0 b1 b2 b3 bH bT = some ((joM (a0, a1, a2, a3, aH, aT) (b0, b1, b2, b3, bH, bT)).1, (joM (a0, a1, a2, a3, aH, aT) (b0, b1, b2, b3, bH, bT)).2.1, (joM (a0, a1, a2, a3, aH, aT) (b0, b1, b2, b3, bH, bT)).2.2.1, (joM (a0, a1, a2, a3, aH, aT) (b0, b1, b2, b3, bH, bT)).2.2.2.1, (joM (a0, a1, a2, a3, aH, aT) (b0, b1, b2, b3, bH, bT)).2.2.2.2.1, (joM (a0, a1, a2, a3, aH, aT) (b0, b1, b2, b3, bH, bT)).2.2.2.2.2, erM (a0, a1, a2, a3, aH, aT) (b0, b1, b2, b3, bH, bT)) := by
  unfold weld_Join.f
  rw [both_eq a0 a1 a2 a3 b0 b1 b2 b3 aH aT bH bT k hk ha1 ha2 hb1 hb2]
  rfl
end
end Go.Proofs.YtaojbcplmdjfnaaDoor.PuJn

namespace Go.Proofs.YtaojbcplmdjfnaaDoor.PuOf
open Go.RowKit Go.Proofs.YtaojbcplmdjfnaaDoor.Pr Go.Proofs.YtaojbcplmdjfnaaDoor.Math Go.Proofs.YtaojbcplmdjfnaaDoor.Ev Go.Proofs.YtaojbcplmdjfnaaDoor.PuSz Go.Proofs.YtaojbcplmdjfnaaDoor.PuMs Go.Proofs.YtaojbcplmdjfnaaDoor.PuSm Go.Proofs.YtaojbcplmdjfnaaDoor.PuJn Go.Proofs.YtaojbcplmdjfnaaDoorW.PrintWords Go.Proofs.YtaojbcplmdjfnaaDoorW.PrintLast Go.Proofs.YtaojbcplmdjfnaaDoorW.PrintMore
set_option linter.unusedVariables false
set_option linter.unusedSimpArgs false
theorem jn_of (a b : List Int) (ha : Byt a) (hb : Byt b) : jnM (mOf a) (mOf b) = mOf (a ++ b) := by
  have rf := rf_append a b
  have es := en_seam a b
  have e1 : seamR (a.drop (a.length - 3)) (b.take 3) = seamR a b := by rw [← seamR_last, ← seamR_take]
  have e2 : seamE (a.drop (a.length - 3)) (b.take 3) = seamE a b := (seamE_last a b).symm
  have hd : (if (a.length : Int) < 3 then strOfNums ((a.take 3 ++ b.take 3).take 3) else strOfNums (a.take 3)) = strOfNums ((a ++ b).take 3) := by
    by_cases h : (a.length : Int) < 3
    · rw [if_pos h, List.take_of_length_le (show a.length ≤ 3 by omega), List.take_append, List.take_append, List.take_take, show min (3 - a.length) 3 = 3 - a.length by omega]
    · rw [if_neg h, List.take_append_of_le_length (by omega)]
  have tl : (if (b.length : Int) < 3 then strOfNums ((a.drop (a.length - 3) ++ b.drop (b.length - 3)).drop ((a.drop (a.length - 3)).length + (b.drop (b.length - 3)).length - 3)) else strOfNums (b.drop (b.length - 3))) = strOfNums ((a ++ b).drop ((a ++ b).length - 3)) := by
    rw [List.length_append]
    by_cases h : (b.length : Int) < 3
    · rw [if_pos h, show b.length - 3 = 0 by omega, List.drop_zero]
      congr 1
      have e : a ++ b = a.take (a.length - 3) ++ (a.drop (a.length - 3) ++ b) := by rw [← List.append_assoc, List.take_append_drop]
      rw [e, List.drop_append (l₁ := a.take (a.length - 3)), List.drop_of_length_le (l := a.take (a.length - 3)) (by rw [List.length_take]; omega), List.nil_append, List.length_take, List.length_drop]
      congr 1
      omega
    · rw [if_neg h, show a.length + b.length - 3 = a.length + (b.length - 3) by omega, ← List.drop_drop, List.drop_left]
  unfold jnM mOf
  dsimp only
  rw [bo_str _ (ha.drop _), bo_str _ (ha.take 3), bo_str _ (hb.take 3), bo_str _ (hb.drop _), sz_str, sz_str, e1, e2, hd, tl, List.length_append, es, rf.2, rf.1, Int.natCast_add]
theorem vM_of (a : List Int) (ha : Byt a) (hl : a.length ≤ 268435456) : vM (mOf a) = true := by
  unfold vM mOf
  dsimp only
  rw [bo_str _ (ha.take 3), bo_str _ (ha.drop _)]
  exact vld_of a ha hl
theorem er_of (a b : List Int) (ha : Byt a) (hb : Byt b) (hl : a.length + b.length ≤ 268435456) : erM (mOf a) (mOf b) = 0 :=
  er_fine ⟨vM_of a ha (by omega), vM_of b hb (by omega)⟩ (by show ¬ (a.length : Int) + (b.length : Int) > 268435456; omega) (by rw [jn_of a b ha hb]; exact vM_of _ (ha.append hb) (by rw [List.length_append]; omega))
theorem jo_of (a b : List Int) (ha : Byt a) (hb : Byt b) (hl : a.length + b.length ≤ 268435456) : joM (mOf a) (mOf b) = mOf (a ++ b) := by
  unfold joM; rw [if_pos (er_of a b ha hb hl), jn_of a b ha hb]
theorem r64_of (a : List Int) (hl : a.length ≤ 4294967296) : R64 (mOf a).2.1 ∧ R64 (mOf a).2.2.1 := by
  have := rn_bounds' a
  unfold R64 mOf
  dsimp only
  omega
theorem join_of (k : Nat) (hk : 120 ≤ k) (a b : List Int) (ha : Byt a) (hb : Byt b) (hl : a.length + b.length ≤ 268435456) :
    weld_Join.f k (mOf a).1 (mOf a).2.1 (mOf a).2.2.1 (mOf a).2.2.2.1 (mOf a).2.2.2.2.1 (mOf a).2.2.2.2.2 (mOf b).1 (mOf b).2.1 (mOf b).2.2.1 (mOf b).2.2.2.1 (mOf b).2.2.2.2.1 (mOf b).2.2.2.2.2 =
      some ((mOf (a ++ b)).1, (mOf (a ++ b)).2.1, (mOf (a ++ b)).2.2.1, (mOf (a ++ b)).2.2.2.1, (mOf (a ++ b)).2.2.2.2.1, (mOf (a ++ b)).2.2.2.2.2, 0) := by
  have ra := r64_of a (by omega)
  have rb := r64_of b (by omega)
  rw [wJoin_eq _ _ _ _ _ _ _ _ _ _ _ _ k hk ra.1 ra.2 rb.1 rb.2]
  have e : ∀ x : List Int, ((mOf x).1, (mOf x).2.1, (mOf x).2.2.1, (mOf x).2.2.2.1, (mOf x).2.2.2.2.1, (mOf x).2.2.2.2.2) = mOf x := fun _ => rfl
  rw [e a, e b, jo_of a b ha hb hl, er_of a b ha hb hl]
end Go.Proofs.YtaojbcplmdjfnaaDoor.PuOf

namespace Go.Proofs.YtaojbcplmdjfnaaDoor.Pr
open Go.RowKit Go.Proofs.YtaojbcplmdjfnaaDoorW.PrintWords Go.Proofs.YtaojbcplmdjfnaaDoorW.PrintLast Go.Proofs.YtaojbcplmdjfnaaDoorW.PrintMore
attribute [local go_sem] max2_int min2_int max_two min_two max_three min_three max_four min_four   -- for this text's walks alone
set_option linter.unusedVariables false
set_option linter.unusedSimpArgs false
def weld_Sum.l0 : Nat → List (S26) → Int → Int → Int → Int → Int → Int → ByteArray → ByteArray → Option (Int × Int × Int × Int × ByteArray × ByteArray × Int)
 | 0, _, _, _, _, _, _, _, _, _ => none
 | k + 1, x9, x10, x11, x519000, x519001, x519002, x519003, x519004, x519005 => if x11 < x10 then (if 0 ≤ x11 then (if x11 < (x9.length : Int) then ((weld_Join.f k x519000 x519001 x519002 x519003 x519004 x519005 ((rd_T26 x9 x11).f0.f0) ((rd_T26 x9 x11).f0.f1) ((rd_T26 x9 x11).f0.f2) ((rd_T26 x9 x11).f0.f3) ((rd_T26 x9 x11).f1) ((rd_T26 x9 x11).f2)).bind fun bt521 => (if bt521.2.2.2.2.2.2 = 0 then (weld_Sum.l0 k x9 x10 (wrap64 (x11 + 1)) bt521.1 bt521.2.1 bt521.2.2.1 bt521.2.2.2.1 bt521.2.2.2.2.1 bt521.2.2.2.2.2.1) else (some (0, 0, 0, 0, (⟨#[]⟩ : ByteArray), (⟨#[]⟩ : ByteArray), bt521.2.2.2.2.2.2)))) else (none)) else (none)) else (some (x519000, x519001, x519002, x519003, x519004, x519005, 0))
def weld_Sum.f (k : Nat) (l0 : List (S26)) : Option (Int × Int × Int × Int × ByteArray × ByteArray × Int) := weld_Sum.l0 k l0 (l0.length : Int) 0 0 0 0 0 (⟨#[]⟩ : ByteArray) (⟨#[]⟩ : ByteArray)
set_option maxHeartbeats 8000000 in
set_option maxRecDepth 100000 in
theorem weld_Sum.calls (k : Nat) (A0 : Option Addr) (c0 : Nat) (l0 : List (S26)) (r1 : Int) (r2 : Int) (r3 : Int) (r4 : Int) (r5 : ByteArray) (r6 : ByteArray) (r7 : Int) (w : World) (hG : Glob.Globs w) (hr0 : Kd.C k26 w A0 l0.length l0) (hc0 : l0.length ≤ c0) (h : weld_Sum.f k l0 = some (r1, r2, r3, r4, r5, r6, r7)) :
  Calls Tryd.prog 21 #[.slice A0 l0.length c0] w fun e w' => e = .returned (.tuple #[.agg #[.int .i64 r1, .int .i64 r2, .int .i64 r3, .int .i64 r4, .string r5, .string r6], .int .i64 r7]) ∧ Below w.heap.size w w' := by
 have hu26 := Tryd.underlying26
 have HG := Aside0.mk hG
 clear hG
 have HR0 := Aside0.mk hr0
 have HC0 := Aside0.mk hc0
 clear hr0 hc0
 have HB := Aside0.mk (Below.refl w.heap.size w)
 have H : (weld_Sum.l0 k l0 (l0.length : Int) 0 0 0 0 0 (⟨#[]⟩ : ByteArray) (⟨#[]⟩ : ByteArray)) = some (r1, r2, r3, r4, r5, r6, r7) := h
 clear h
 have H' := Aside0.mk H
 clear H
 go_enter Tryd.func21, Tryd.ntmps21
 go_wp2_with (first | ((with_reducible refine gate_dst (N := 2) rfl ?_); refine box_event ?hg (N := 2) ?hd (cs := #[.int .i64 0, .int .i64 0, .int .i64 0, .int .i64 0, .string (⟨#[]⟩ : ByteArray), .string (⟨#[]⟩ : ByteArray)]) (t := 26) ?hr ?_; (case hd => rfl); (case hg => rfl); (case hr => first | (go_simp; done) | (go_simp; rfl)); intro gb517 hg w2 hbox hb; have n0_ := Aside0.mk (below_step (bl HB.out) hb); have n1_ := Aside0.mk (hbox); have n2_ := Aside0.mk ((by rw [hg]; exact (below_size (bl HB.out)) : w.heap.size ≤ gb517)); have n3_ := Aside0.mk ((by rw [hg]; exact (below_size (bl HB.out)) : w.heap.size ≤ gb517)); clear HB; have HB := n0_; have BK517 := n1_; have GW517 := n2_; have GE517 := n3_; clear n0_ n1_ n2_ n3_; clear hb hbox hg) | ((with_reducible refine gate_dst (N := 4) rfl ?_); refine box_event ?hg (N := 4) ?hd (cs := #[.int .i64 0, .int .i64 0, .int .i64 0, .int .i64 0, .string (⟨#[]⟩ : ByteArray), .string (⟨#[]⟩ : ByteArray)]) (t := 26) ?hr ?_; (case hd => rfl); (case hg => rfl); (case hr => first | (go_simp; done) | (go_simp; rfl)); intro gb518 hg w3 hbox hb; have n0_ := Aside0.mk (blk_below (pl BK517.out) hb); have n1_ := Aside0.mk (below_step (by repeat (first | (with_reducible first | exact HB.out | apply below_alloc | apply pw_below_drewN | apply below_drew1 | refine below_set ?_ GE517.out) | exact HB.out)) hb); have n2_ := Aside0.mk (hbox); have n3_ := Aside0.mk ((by rw [hg]; exact (below_size (by repeat (first | (with_reducible first | exact HB.out | apply below_alloc | apply pw_below_drewN | apply below_drew1 | refine below_set ?_ GE517.out) | exact HB.out))) : w.heap.size ≤ gb518)); have n4_ := Aside0.mk ((by rw [hg]; exact (below_size (by repeat (first | (with_reducible first | exact HB.out | apply below_alloc | apply pw_below_drewN | apply below_drew1 | refine below_set ?_ GE517.out) | exact HB.out))) : w.heap.size ≤ gb518)); have n5_ := Aside0.mk ((by rw [hg]; exact Nat.ne_of_lt (blk_lt (pl BK517.out)) : gb517 ≠ gb518)); have n6_ := Aside0.mk ((by rw [hg]; exact Nat.ne_of_gt (blk_lt (pl BK517.out)) : gb518 ≠ gb517)); clear BK517; clear HB; have BK517 := n0_; have HB := n1_; have BK518 := n2_; have GW518 := n3_; have GE518 := n4_; have NB517_518 := n5_; have NB518_517 := n6_; clear n0_ n1_ n2_ n3_ n4_ n5_ n6_; clear hb hbox hg))
 go_loopg [11] k (fun kq v11 w' => ∃ (x11_1 : Int) (x518000_1 : Int) (x518001_1 : Int) (x518002_1 : Int) (x518003_1 : Int) (x518004_1 : ByteArray) (x518005_1 : ByteArray) (x519000_1 : Int) (x519001_1 : Int) (x519002_1 : Int) (x519003_1 : Int) (x519004_1 : ByteArray) (x519005_1 : ByteArray), v11 = .int .i64 x11_1 ∧ Aside0 (weld_Sum.l0 kq l0 (l0.length : Int) x11_1 x519000_1 x519001_1 x519002_1 x519003_1 x519004_1 x519005_1 = some (r1, r2, r3, r4, r5, r6, r7)) ∧ Aside0 (kq ≤ k) ∧ Aside0 (w'.heap[gb517]? = some (.cells #[.int .i64 x518000_1, .int .i64 x518001_1, .int .i64 x518002_1, .int .i64 x518003_1, .string x518004_1, .string x518005_1] 26 (0, 0))) ∧ Aside0 (w'.heap[gb518]? = some (.cells #[.int .i64 x519000_1, .int .i64 x519001_1, .int .i64 x519002_1, .int .i64 x519003_1, .string x519004_1, .string x519005_1] 26 (0, 0))) ∧ Aside0 (Below w.heap.size w w'))
 case atStart => exact ⟨(0), (0), (0), (0), (0), ((⟨#[]⟩ : ByteArray)), ((⟨#[]⟩ : ByteArray)), (0), (0), (0), (0), ((⟨#[]⟩ : ByteArray)), ((⟨#[]⟩ : ByteArray)), (by first | rfl | (simp; done) | (simp [*]; done)), H', ⟨Nat.le_refl _⟩, ⟨pl BK517.out⟩, ⟨pl BK518.out⟩, ⟨by repeat (first | (with_reducible first | exact HB.out | apply below_alloc | apply pw_below_drewN | apply below_drew1 | refine below_set ?_ GE517.out | refine below_set ?_ GE518.out) | exact HB.out)⟩⟩
 case round =>
  clear H'
  try clear c2
  try clear p2
  obtain ⟨x11_1, x518000_1, x518001_1, x518002_1, x518003_1, x518004_1, x518005_1, x519000_1, x519001_1, x519002_1, x519003_1, x519004_1, x519005_1, rfl, HA, HK1, BK517, BK518, HB⟩ := hrel
  cases gk with
  | zero => exact absurd HA.out (by simp [weld_Sum.l0])
  | succ k1 =>
   have H := HA.out
   clear HA
   simp only [weld_Sum.l0] at H
   by_cases c4 : x11_1 < (l0.length : Int)
   ·rw [if_pos c4] at H
    have c4b0 : decide (x11_1 < (l0.length : Int)) = true := decide_eq_true c4
    clear c4
    by_cases c5 : 0 ≤ x11_1
    ·rw [if_pos c5] at H
     have c5b0 : decide (0 ≤ x11_1) = true := decide_eq_true c5
     clear c5
     by_cases c6 : x11_1 < (l0.length : Int)
     ·rw [if_pos c6] at H
      have c6b0 : decide (x11_1 < (l0.length : Int)) = true := decide_eq_true c6
      clear c6
      replace H := Option.bind_eq_some_iff.mp H
      obtain ⟨⟨t521, t522, t523, t524, t525, t526, t527⟩, A70, H⟩ := H
      replace H : (if t527 = 0 then (weld_Sum.l0 k1 l0 (l0.length : Int) (wrap64 (x11_1 + 1)) t521 t522 t523 t524 t525 t526) else (some (0, 0, 0, 0, (⟨#[]⟩ : ByteArray), (⟨#[]⟩ : ByteArray), t527))) = some (r1, r2, r3, r4, r5, r6, r7) := H
      have A7 := Aside0.mk A70
      clear A70
      by_cases c8 : t527 = 0
      ·rw [if_pos c8] at H
       have c8b0 : (t527 == 0) = true := beq_iff_eq.mpr c8
       have c8b1 : (t527 != 0) = false := bne_eq_false_iff_eq.mpr c8
       clear c8
       have H' := Aside0.mk H
       clear H
       have p519 : 0 ≤ (x11_1 : Int) := of_decide_eq_true (by first | (with_reducible assumption) | assumption)
       have q519 : x11_1 < (l0.length : Int) := of_decide_eq_true (by first | (with_reducible assumption) | assumption)
       obtain ⟨ad519, e519, hx519_0, hx519_1, hx519_2, hx519_3, hx519_4, hx519_5⟩ := at_T26 HR0.out x11_1 p519 q519
       cases e519
       replace hx519_0 := (HB.out.cell (World.block_lt_of_cell? w _ hx519_0)).trans hx519_0
       replace hx519_1 := (HB.out.cell (World.block_lt_of_cell? w _ hx519_1)).trans hx519_1
       replace hx519_2 := (HB.out.cell (World.block_lt_of_cell? w _ hx519_2)).trans hx519_2
       replace hx519_3 := (HB.out.cell (World.block_lt_of_cell? w _ hx519_3)).trans hx519_3
       replace hx519_4 := (HB.out.cell (World.block_lt_of_cell? w _ hx519_4)).trans hx519_4
       replace hx519_5 := (HB.out.cell (World.block_lt_of_cell? w _ hx519_5)).trans hx519_5
       replace p519 := eq_true p519
       replace q519 := eq_true q519
       go_wp2_with (first | ((with_reducible refine gate_dst (N := 6) rfl ?_); refine box_event ?hg (N := 6) ?hd (cs := #[.int .i64 0, .int .i64 0, .int .i64 0, .int .i64 0, .string (⟨#[]⟩ : ByteArray), .string (⟨#[]⟩ : ByteArray)]) (t := 26) ?hr ?_; (case hd => rfl); (case hg => rfl); (case hr => first | (go_simp; done) | (go_simp; rfl)); intro gb520 hg w9 hbox hb; have n0_ := Aside0.mk (blk_below (pl BK517.out) hb); have n1_ := Aside0.mk (blk_below (pl BK518.out) hb); have n2_ := Aside0.mk (below_step (by repeat (first | (with_reducible first | exact HB.out | apply below_alloc | apply pw_below_drewN | apply below_drew1 | refine below_set ?_ GE517.out | refine below_set ?_ GE518.out) | exact HB.out)) hb); have n3_ := Aside0.mk (hbox); have n4_ := Aside0.mk ((by rw [hg]; exact (below_size (by repeat (first | (with_reducible first | exact HB.out | apply below_alloc | apply pw_below_drewN | apply below_drew1 | refine below_set ?_ GE517.out | refine below_set ?_ GE518.out) | exact HB.out))) : w.heap.size ≤ gb520)); have n5_ := Aside0.mk ((by rw [hg]; exact (below_size (by repeat (first | (with_reducible first | exact HB.out | apply below_alloc | apply pw_below_drewN | apply below_drew1 | refine below_set ?_ GE517.out | refine below_set ?_ GE518.out) | exact HB.out))) : w.heap.size ≤ gb520)); have n6_ := Aside0.mk ((by rw [hg]; exact Nat.ne_of_lt (blk_lt (pl BK517.out)) : gb517 ≠ gb520)); have n7_ := Aside0.mk ((by rw [hg]; exact Nat.ne_of_gt (blk_lt (pl BK517.out)) : gb520 ≠ gb517)); have n8_ := Aside0.mk ((by rw [hg]; exact Nat.ne_of_lt (blk_lt (pl BK518.out)) : gb518 ≠ gb520)); have n9_ := Aside0.mk ((by rw [hg]; exact Nat.ne_of_gt (blk_lt (pl BK518.out)) : gb520 ≠ gb518)); clear BK517; clear BK518; clear HB; have BK517 := n0_; have BK518 := n1_; have HB := n2_; have BK520 := n3_; have GW520 := n4_; have GE520 := n5_; have NB517_520 := n6_; have NB520_517 := n7_; have NB518_520 := n8_; have NB520_518 := n9_; clear n0_ n1_ n2_ n3_ n4_ n5_ n6_ n7_ n8_ n9_; clear hb hbox hg; have hnb10 := NB520_517.out; have hnc10 := NB517_520.out; have hnb11 := NB520_518.out; have hnc11 := NB518_520.out; have hcz12_0 : w9.cell? ⟨gb520, 0, none⟩ = some (.int .i64 0) := (blk_cell BK520.out 0).trans rfl; have hcz12_1 : w9.cell? ⟨gb520, 1, none⟩ = some (.int .i64 0) := (blk_cell BK520.out 1).trans rfl; have hcz12_2 : w9.cell? ⟨gb520, 2, none⟩ = some (.int .i64 0) := (blk_cell BK520.out 2).trans rfl; have hcz12_3 : w9.cell? ⟨gb520, 3, none⟩ = some (.int .i64 0) := (blk_cell BK520.out 3).trans rfl; have hcz12_4 : w9.cell? ⟨gb520, 4, none⟩ = some (.string (⟨#[]⟩ : ByteArray)) := (blk_cell BK520.out 4).trans rfl; have hcz12_5 : w9.cell? ⟨gb520, 5, none⟩ = some (.string (⟨#[]⟩ : ByteArray)) := (blk_cell BK520.out 5).trans rfl; have hfz12_0 := blk_frozen BK520.out 0; have hfz12_1 := blk_frozen BK520.out 1; have hfz12_2 := blk_frozen BK520.out 2; have hfz12_3 := blk_frozen BK520.out 3; have hfz12_4 := blk_frozen BK520.out 4; have hfz12_5 := blk_frozen BK520.out 5; have hnb13 := NB518_517.out; have hnc13 := NB517_518.out; have hcz14_0 : w9.cell? ⟨gb518, 0, none⟩ = some (.int .i64 x519000_1) := (blk_cell BK518.out 0).trans rfl; have hcz14_1 : w9.cell? ⟨gb518, 1, none⟩ = some (.int .i64 x519001_1) := (blk_cell BK518.out 1).trans rfl; have hcz14_2 : w9.cell? ⟨gb518, 2, none⟩ = some (.int .i64 x519002_1) := (blk_cell BK518.out 2).trans rfl; have hcz14_3 : w9.cell? ⟨gb518, 3, none⟩ = some (.int .i64 x519003_1) := (blk_cell BK518.out 3).trans rfl; have hcz14_4 : w9.cell? ⟨gb518, 4, none⟩ = some (.string x519004_1) := (blk_cell BK518.out 4).trans rfl; have hcz14_5 : w9.cell? ⟨gb518, 5, none⟩ = some (.string x519005_1) := (blk_cell BK518.out 5).trans rfl; have hfz14_0 := blk_frozen BK518.out 0; have hfz14_1 := blk_frozen BK518.out 1; have hfz14_2 := blk_frozen BK518.out 2; have hfz14_3 := blk_frozen BK518.out 3; have hfz14_4 := blk_frozen BK518.out 4; have hfz14_5 := blk_frozen BK518.out 5) | ((with_reducible refine gate_callee (f := 17) rfl ?_); refine goesL_ (some 18) rfl rfl Tryd.func17 (by kernel_rfl) rfl #[.agg #[.int .i64 x519000_1, .int .i64 x519001_1, .int .i64 x519002_1, .int .i64 x519003_1, .string x519004_1, .string x519005_1], .agg #[.int .i64 ((rd_T26 l0 x11_1).f0.f0), .int .i64 ((rd_T26 l0 x11_1).f0.f1), .int .i64 ((rd_T26 l0 x11_1).f0.f2), .int .i64 ((rd_T26 l0 x11_1).f0.f3), .string ((rd_T26 l0 x11_1).f1), .string ((rd_T26 l0 x11_1).f2)]] rfl (by (try simp only [List.map_toArray, List.map_cons, List.map_nil]); first | done | rfl | (simp only [List.length_drop, List.length_take]; rfl)) ?_; (with_reducible refine (weld_Join.calls k1 x519000_1 x519001_1 x519002_1 x519003_1 x519004_1 x519005_1 ((rd_T26 l0 x11_1).f0.f0) ((rd_T26 l0 x11_1).f0.f1) ((rd_T26 l0 x11_1).f0.f2) ((rd_T26 l0 x11_1).f0.f3) ((rd_T26 l0 x11_1).f1) ((rd_T26 l0 x11_1).f2) t521 t522 t523 t524 t525 t526 t527 _ ?side1 A7.out).mono ?_); (case side1 => first | (with_reducible exact HG.out) | exact Glob.Globs_below HG.out (by repeat (first | (with_reducible first | exact HB.out | apply below_alloc | apply pw_below_drewN | apply below_drew1 | refine below_set ?_ GE517.out | refine below_set ?_ GE518.out | refine below_set ?_ GE520.out) | exact HB.out))); rintro e w15 ⟨rfl, hb⟩; refine ⟨_, rfl, ?_⟩; have n0_ := Aside0.mk (blk_below (g := gb517) (o := .cells #[.int .i64 x518000_1, .int .i64 x518001_1, .int .i64 x518002_1, .int .i64 x518003_1, .string x518004_1, .string x518005_1] 26 (0, 0)) (by refine pl ?_; refine blk_far ?_ NB517_520.out _; refine pl ?_; refine blk_far ?_ NB517_520.out _; refine pl ?_; refine blk_far ?_ NB517_520.out _; refine pl ?_; refine blk_far ?_ NB517_520.out _; refine pl ?_; refine blk_far ?_ NB517_520.out _; refine pl ?_; refine blk_far ?_ NB517_520.out _; refine pl ?_; exact BK517.out) hb); have n1_ := Aside0.mk (blk_below (g := gb518) (o := .cells #[.int .i64 x519000_1, .int .i64 x519001_1, .int .i64 x519002_1, .int .i64 x519003_1, .string x519004_1, .string x519005_1] 26 (0, 0)) (by refine pl ?_; refine blk_far ?_ NB518_520.out _; refine pl ?_; refine blk_far ?_ NB518_520.out _; refine pl ?_; refine blk_far ?_ NB518_520.out _; refine pl ?_; refine blk_far ?_ NB518_520.out _; refine pl ?_; refine blk_far ?_ NB518_520.out _; refine pl ?_; refine blk_far ?_ NB518_520.out _; refine pl ?_; exact BK518.out) hb); have n2_ := Aside0.mk (blk_below (g := gb520) (o := .cells #[.int .i64 ((rd_T26 l0 x11_1).f0.f0), .int .i64 ((rd_T26 l0 x11_1).f0.f1), .int .i64 ((rd_T26 l0 x11_1).f0.f2), .int .i64 ((rd_T26 l0 x11_1).f0.f3), .string ((rd_T26 l0 x11_1).f1), .string ((rd_T26 l0 x11_1).f2)] 26 (0, 0)) (by refine pl ?_; refine blk_put (cs := #[.int .i64 ((rd_T26 l0 x11_1).f0.f0), .int .i64 ((rd_T26 l0 x11_1).f0.f1), .int .i64 ((rd_T26 l0 x11_1).f0.f2), .int .i64 ((rd_T26 l0 x11_1).f0.f3), .string ((rd_T26 l0 x11_1).f1), .string (⟨#[]⟩ : ByteArray)]) ?_ 5 _ rfl; refine pl ?_; refine blk_put (cs := #[.int .i64 ((rd_T26 l0 x11_1).f0.f0), .int .i64 ((rd_T26 l0 x11_1).f0.f1), .int .i64 ((rd_T26 l0 x11_1).f0.f2), .int .i64 ((rd_T26 l0 x11_1).f0.f3), .string (⟨#[]⟩ : ByteArray), .string (⟨#[]⟩ : ByteArray)]) ?_ 4 _ rfl; refine pl ?_; refine blk_put (cs := #[.int .i64 ((rd_T26 l0 x11_1).f0.f0), .int .i64 ((rd_T26 l0 x11_1).f0.f1), .int .i64 ((rd_T26 l0 x11_1).f0.f2), .int .i64 0, .string (⟨#[]⟩ : ByteArray), .string (⟨#[]⟩ : ByteArray)]) ?_ 3 _ rfl; refine pl ?_; refine blk_put (cs := #[.int .i64 ((rd_T26 l0 x11_1).f0.f0), .int .i64 ((rd_T26 l0 x11_1).f0.f1), .int .i64 0, .int .i64 0, .string (⟨#[]⟩ : ByteArray), .string (⟨#[]⟩ : ByteArray)]) ?_ 2 _ rfl; refine pl ?_; refine blk_put (cs := #[.int .i64 ((rd_T26 l0 x11_1).f0.f0), .int .i64 0, .int .i64 0, .int .i64 0, .string (⟨#[]⟩ : ByteArray), .string (⟨#[]⟩ : ByteArray)]) ?_ 1 _ rfl; refine pl ?_; refine blk_put (cs := #[.int .i64 0, .int .i64 0, .int .i64 0, .int .i64 0, .string (⟨#[]⟩ : ByteArray), .string (⟨#[]⟩ : ByteArray)]) ?_ 0 _ rfl; refine pl ?_; exact BK520.out) hb); have n3_ := Aside0.mk (below_step (by repeat (first | (with_reducible first | exact HB.out | apply below_alloc | apply pw_below_drewN | apply below_drew1 | refine below_set ?_ GE517.out | refine below_set ?_ GE518.out | refine below_set ?_ GE520.out) | exact HB.out)) hb); clear BK517; clear BK518; clear BK520; clear HB; have BK517 := n0_; have BK518 := n1_; have BK520 := n2_; have HB := n3_; clear n0_ n1_ n2_ n3_; (try clear hb); (try clear hb2); (try clear hk); (try clear hi)) | ((with_reducible refine gate_dst (N := 7) rfl ?_); refine box_event ?hg (N := 7) ?hd (cs := #[.int .i64 0, .int .i64 0, .int .i64 0, .int .i64 0, .string (⟨#[]⟩ : ByteArray), .string (⟨#[]⟩ : ByteArray)]) (t := 26) ?hr ?_; (case hd => rfl); (case hg => rfl); (case hr => first | (go_simp; done) | (go_simp; rfl)); intro gb528 hg w16 hbox hb; have n0_ := Aside0.mk (blk_below (pl BK517.out) hb); have n1_ := Aside0.mk (blk_below (pl BK518.out) hb); have n2_ := Aside0.mk (blk_below (pl BK520.out) hb); have n3_ := Aside0.mk (below_step (by repeat (first | (with_reducible first | exact HB.out | apply below_alloc | apply pw_below_drewN | apply below_drew1 | refine below_set ?_ GE517.out | refine below_set ?_ GE518.out | refine below_set ?_ GE520.out) | exact HB.out)) hb); have n4_ := Aside0.mk (hbox); have n5_ := Aside0.mk ((by rw [hg]; exact (below_size (by repeat (first | (with_reducible first | exact HB.out | apply below_alloc | apply pw_below_drewN | apply below_drew1 | refine below_set ?_ GE517.out | refine below_set ?_ GE518.out | refine below_set ?_ GE520.out) | exact HB.out))) : w.heap.size ≤ gb528)); have n6_ := Aside0.mk ((by rw [hg]; exact (below_size (by repeat (first | (with_reducible first | exact HB.out | apply below_alloc | apply pw_below_drewN | apply below_drew1 | refine below_set ?_ GE517.out | refine below_set ?_ GE518.out | refine below_set ?_ GE520.out) | exact HB.out))) : w.heap.size ≤ gb528)); have n7_ := Aside0.mk ((by rw [hg]; exact Nat.ne_of_lt (blk_lt (pl BK517.out)) : gb517 ≠ gb528)); have n8_ := Aside0.mk ((by rw [hg]; exact Nat.ne_of_gt (blk_lt (pl BK517.out)) : gb528 ≠ gb517)); have n9_ := Aside0.mk ((by rw [hg]; exact Nat.ne_of_lt (blk_lt (pl BK518.out)) : gb518 ≠ gb528)); have n10_ := Aside0.mk ((by rw [hg]; exact Nat.ne_of_gt (blk_lt (pl BK518.out)) : gb528 ≠ gb518)); have n11_ := Aside0.mk ((by rw [hg]; exact Nat.ne_of_lt (blk_lt (pl BK520.out)) : gb520 ≠ gb528)); have n12_ := Aside0.mk ((by rw [hg]; exact Nat.ne_of_gt (blk_lt (pl BK520.out)) : gb528 ≠ gb520)); clear BK517; clear BK518; clear BK520; clear HB; have BK517 := n0_; have BK518 := n1_; have BK520 := n2_; have HB := n3_; have BK528 := n4_; have GW528 := n5_; have GE528 := n6_; have NB517_528 := n7_; have NB528_517 := n8_; have NB518_528 := n9_; have NB528_518 := n10_; have NB520_528 := n11_; have NB528_520 := n12_; clear n0_ n1_ n2_ n3_ n4_ n5_ n6_ n7_ n8_ n9_ n10_ n11_ n12_; clear hb hbox hg; have hnb17 := NB528_517.out; have hnc17 := NB517_528.out; have hnb18 := NB528_518.out; have hnc18 := NB518_528.out; have hnb19 := NB528_520.out; have hnc19 := NB520_528.out; have hcz20_0 : w16.cell? ⟨gb528, 0, none⟩ = some (.int .i64 0) := (blk_cell BK528.out 0).trans rfl; have hcz20_1 : w16.cell? ⟨gb528, 1, none⟩ = some (.int .i64 0) := (blk_cell BK528.out 1).trans rfl; have hcz20_2 : w16.cell? ⟨gb528, 2, none⟩ = some (.int .i64 0) := (blk_cell BK528.out 2).trans rfl; have hcz20_3 : w16.cell? ⟨gb528, 3, none⟩ = some (.int .i64 0) := (blk_cell BK528.out 3).trans rfl; have hcz20_4 : w16.cell? ⟨gb528, 4, none⟩ = some (.string (⟨#[]⟩ : ByteArray)) := (blk_cell BK528.out 4).trans rfl; have hcz20_5 : w16.cell? ⟨gb528, 5, none⟩ = some (.string (⟨#[]⟩ : ByteArray)) := (blk_cell BK528.out 5).trans rfl; have hfz20_0 := blk_frozen BK528.out 0; have hfz20_1 := blk_frozen BK528.out 1; have hfz20_2 := blk_frozen BK528.out 2; have hfz20_3 := blk_frozen BK528.out 3; have hfz20_4 := blk_frozen BK528.out 4; have hfz20_5 := blk_frozen BK528.out 5; have hcz21_0 : w16.cell? ⟨gb518, 0, none⟩ = some (.int .i64 x519000_1) := (blk_cell BK518.out 0).trans rfl; have hcz21_1 : w16.cell? ⟨gb518, 1, none⟩ = some (.int .i64 x519001_1) := (blk_cell BK518.out 1).trans rfl; have hcz21_2 : w16.cell? ⟨gb518, 2, none⟩ = some (.int .i64 x519002_1) := (blk_cell BK518.out 2).trans rfl; have hcz21_3 : w16.cell? ⟨gb518, 3, none⟩ = some (.int .i64 x519003_1) := (blk_cell BK518.out 3).trans rfl; have hcz21_4 : w16.cell? ⟨gb518, 4, none⟩ = some (.string x519004_1) := (blk_cell BK518.out 4).trans rfl; have hcz21_5 : w16.cell? ⟨gb518, 5, none⟩ = some (.string x519005_1) := (blk_cell BK518.out 5).trans rfl; have hfz21_0 := blk_frozen BK518.out 0; have hfz21_1 := blk_frozen BK518.out 1; have hfz21_2 := blk_frozen BK518.out 2; have hfz21_3 := blk_frozen BK518.out 3; have hfz21_4 := blk_frozen BK518.out 4; have hfz21_5 := blk_frozen BK518.out 5))
       go_roundg k1
       case measure => have := HK1.out; omega
       case rel => exact ⟨(wrap64 (x11_1 + 1)), (x518000_1), (x518001_1), (x518002_1), (x518003_1), (x518004_1), (x518005_1), (t521), (t522), (t523), (t524), (t525), (t526), (by first | rfl | (simp; done) | (simp [*]; done)), H', ⟨by have := HK1.out; omega⟩, ⟨by refine pl ?_; refine blk_far ?_ NB517_518.out _; refine pl ?_; refine blk_far ?_ NB517_518.out _; refine pl ?_; refine blk_far ?_ NB517_518.out _; refine pl ?_; refine blk_far ?_ NB517_518.out _; refine pl ?_; refine blk_far ?_ NB517_518.out _; refine pl ?_; refine blk_far ?_ NB517_518.out _; refine pl ?_; refine blk_far ?_ NB517_528.out _; refine pl ?_; refine blk_far ?_ NB517_528.out _; refine pl ?_; refine blk_far ?_ NB517_528.out _; refine pl ?_; refine blk_far ?_ NB517_528.out _; refine pl ?_; refine blk_far ?_ NB517_528.out _; refine pl ?_; refine blk_far ?_ NB517_528.out _; refine pl ?_; exact BK517.out⟩, ⟨by refine pl ?_; refine blk_put (cs := #[.int .i64 t521, .int .i64 t522, .int .i64 t523, .int .i64 t524, .string t525, .string x519005_1]) ?_ 5 _ rfl; refine pl ?_; refine blk_put (cs := #[.int .i64 t521, .int .i64 t522, .int .i64 t523, .int .i64 t524, .string x519004_1, .string x519005_1]) ?_ 4 _ rfl; refine pl ?_; refine blk_put (cs := #[.int .i64 t521, .int .i64 t522, .int .i64 t523, .int .i64 x519003_1, .string x519004_1, .string x519005_1]) ?_ 3 _ rfl; refine pl ?_; refine blk_put (cs := #[.int .i64 t521, .int .i64 t522, .int .i64 x519002_1, .int .i64 x519003_1, .string x519004_1, .string x519005_1]) ?_ 2 _ rfl; refine pl ?_; refine blk_put (cs := #[.int .i64 t521, .int .i64 x519001_1, .int .i64 x519002_1, .int .i64 x519003_1, .string x519004_1, .string x519005_1]) ?_ 1 _ rfl; refine pl ?_; refine blk_put (cs := #[.int .i64 x519000_1, .int .i64 x519001_1, .int .i64 x519002_1, .int .i64 x519003_1, .string x519004_1, .string x519005_1]) ?_ 0 _ rfl; refine pl ?_; refine blk_far ?_ NB518_528.out _; refine pl ?_; refine blk_far ?_ NB518_528.out _; refine pl ?_; refine blk_far ?_ NB518_528.out _; refine pl ?_; refine blk_far ?_ NB518_528.out _; refine pl ?_; refine blk_far ?_ NB518_528.out _; refine pl ?_; refine blk_far ?_ NB518_528.out _; refine pl ?_; exact BK518.out⟩, ⟨by repeat (first | (with_reducible first | exact HB.out | apply below_alloc | apply pw_below_drewN | apply below_drew1 | refine below_set ?_ GE517.out | refine below_set ?_ GE518.out | refine below_set ?_ GE520.out | refine below_set ?_ GE528.out) | exact HB.out)⟩⟩
      ·rw [if_neg c8] at H
       have c8b0 : (t527 == 0) = false := beq_eq_false_iff_ne.mpr c8
       have c8b1 : (t527 != 0) = true := bne_iff_ne.mpr c8
       simp only [Option.some.injEq, Prod.mk.injEq] at H
       obtain ⟨rfl, rfl, rfl, rfl, rfl, rfl, rfl⟩ := H
       have p519 : 0 ≤ (x11_1 : Int) := of_decide_eq_true (by first | (with_reducible assumption) | assumption)
       have q519 : x11_1 < (l0.length : Int) := of_decide_eq_true (by first | (with_reducible assumption) | assumption)
       obtain ⟨ad519, e519, hx519_0, hx519_1, hx519_2, hx519_3, hx519_4, hx519_5⟩ := at_T26 HR0.out x11_1 p519 q519
       cases e519
       replace hx519_0 := (HB.out.cell (World.block_lt_of_cell? w _ hx519_0)).trans hx519_0
       replace hx519_1 := (HB.out.cell (World.block_lt_of_cell? w _ hx519_1)).trans hx519_1
       replace hx519_2 := (HB.out.cell (World.block_lt_of_cell? w _ hx519_2)).trans hx519_2
       replace hx519_3 := (HB.out.cell (World.block_lt_of_cell? w _ hx519_3)).trans hx519_3
       replace hx519_4 := (HB.out.cell (World.block_lt_of_cell? w _ hx519_4)).trans hx519_4
       replace hx519_5 := (HB.out.cell (World.block_lt_of_cell? w _ hx519_5)).trans hx519_5
       replace p519 := eq_true p519
       replace q519 := eq_true q519
       go_wp2_with (first | ((with_reducible refine gate_dst (N := 6) rfl ?_); refine box_event ?hg (N := 6) ?hd (cs := #[.int .i64 0, .int .i64 0, .int .i64 0, .int .i64 0, .string (⟨#[]⟩ : ByteArray), .string (⟨#[]⟩ : ByteArray)]) (t := 26) ?hr ?_; (case hd => rfl); (case hg => rfl); (case hr => first | (go_simp; done) | (go_simp; rfl)); intro gb520 hg w22 hbox hb; have n0_ := Aside0.mk (blk_below (pl BK517.out) hb); have n1_ := Aside0.mk (blk_below (pl BK518.out) hb); have n2_ := Aside0.mk (below_step (by repeat (first | (with_reducible first | exact HB.out | apply below_alloc | apply pw_below_drewN | apply below_drew1 | refine below_set ?_ GE517.out | refine below_set ?_ GE518.out) | exact HB.out)) hb); have n3_ := Aside0.mk (hbox); have n4_ := Aside0.mk ((by rw [hg]; exact (below_size (by repeat (first | (with_reducible first | exact HB.out | apply below_alloc | apply pw_below_drewN | apply below_drew1 | refine below_set ?_ GE517.out | refine below_set ?_ GE518.out) | exact HB.out))) : w.heap.size ≤ gb520)); have n5_ := Aside0.mk ((by rw [hg]; exact (below_size (by repeat (first | (with_reducible first | exact HB.out | apply below_alloc | apply pw_below_drewN | apply below_drew1 | refine below_set ?_ GE517.out | refine below_set ?_ GE518.out) | exact HB.out))) : w.heap.size ≤ gb520)); have n6_ := Aside0.mk ((by rw [hg]; exact Nat.ne_of_lt (blk_lt (pl BK517.out)) : gb517 ≠ gb520)); have n7_ := Aside0.mk ((by rw [hg]; exact Nat.ne_of_gt (blk_lt (pl BK517.out)) : gb520 ≠ gb517)); have n8_ := Aside0.mk ((by rw [hg]; exact Nat.ne_of_lt (blk_lt (pl BK518.out)) : gb518 ≠ gb520)); have n9_ := Aside0.mk ((by rw [hg]; exact Nat.ne_of_gt (blk_lt (pl BK518.out)) : gb520 ≠ gb518)); clear BK517; clear BK518; clear HB; have BK517 := n0_; have BK518 := n1_; have HB := n2_; have BK520 := n3_; have GW520 := n4_; have GE520 := n5_; have NB517_520 := n6_; have NB520_517 := n7_; have NB518_520 := n8_; have NB520_518 := n9_; clear n0_ n1_ n2_ n3_ n4_ n5_ n6_ n7_ n8_ n9_; clear hb hbox hg; have hnb23 := NB520_517.out; have hnc23 := NB517_520.out; have hnb24 := NB520_518.out; have hnc24 := NB518_520.out; have hcz25_0 : w22.cell? ⟨gb520, 0, none⟩ = some (.int .i64 0) := (blk_cell BK520.out 0).trans rfl; have hcz25_1 : w22.cell? ⟨gb520, 1, none⟩ = some (.int .i64 0) := (blk_cell BK520.out 1).trans rfl; have hcz25_2 : w22.cell? ⟨gb520, 2, none⟩ = some (.int .i64 0) := (blk_cell BK520.out 2).trans rfl; have hcz25_3 : w22.cell? ⟨gb520, 3, none⟩ = some (.int .i64 0) := (blk_cell BK520.out 3).trans rfl; have hcz25_4 : w22.cell? ⟨gb520, 4, none⟩ = some (.string (⟨#[]⟩ : ByteArray)) := (blk_cell BK520.out 4).trans rfl; have hcz25_5 : w22.cell? ⟨gb520, 5, none⟩ = some (.string (⟨#[]⟩ : ByteArray)) := (blk_cell BK520.out 5).trans rfl; have hfz25_0 := blk_frozen BK520.out 0; have hfz25_1 := blk_frozen BK520.out 1; have hfz25_2 := blk_frozen BK520.out 2; have hfz25_3 := blk_frozen BK520.out 3; have hfz25_4 := blk_frozen BK520.out 4; have hfz25_5 := blk_frozen BK520.out 5; have hnb26 := NB518_517.out; have hnc26 := NB517_518.out; have hcz27_0 : w22.cell? ⟨gb518, 0, none⟩ = some (.int .i64 x519000_1) := (blk_cell BK518.out 0).trans rfl; have hcz27_1 : w22.cell? ⟨gb518, 1, none⟩ = some (.int .i64 x519001_1) := (blk_cell BK518.out 1).trans rfl; have hcz27_2 : w22.cell? ⟨gb518, 2, none⟩ = some (.int .i64 x519002_1) := (blk_cell BK518.out 2).trans rfl; have hcz27_3 : w22.cell? ⟨gb518, 3, none⟩ = some (.int .i64 x519003_1) := (blk_cell BK518.out 3).trans rfl; have hcz27_4 : w22.cell? ⟨gb518, 4, none⟩ = some (.string x519004_1) := (blk_cell BK518.out 4).trans rfl; have hcz27_5 : w22.cell? ⟨gb518, 5, none⟩ = some (.string x519005_1) := (blk_cell BK518.out 5).trans rfl; have hfz27_0 := blk_frozen BK518.out 0; have hfz27_1 := blk_frozen BK518.out 1; have hfz27_2 := blk_frozen BK518.out 2; have hfz27_3 := blk_frozen BK518.out 3; have hfz27_4 := blk_frozen BK518.out 4; have hfz27_5 := blk_frozen BK518.out 5) | ((with_reducible refine gate_callee (f := 17) rfl ?_); refine goesL_ (some 18) rfl rfl Tryd.func17 (by kernel_rfl) rfl #[.agg #[.int .i64 x519000_1, .int .i64 x519001_1, .int .i64 x519002_1, .int .i64 x519003_1, .string x519004_1, .string x519005_1], .agg #[.int .i64 ((rd_T26 l0 x11_1).f0.f0), .int .i64 ((rd_T26 l0 x11_1).f0.f1), .int .i64 ((rd_T26 l0 x11_1).f0.f2), .int .i64 ((rd_T26 l0 x11_1).f0.f3), .string ((rd_T26 l0 x11_1).f1), .string ((rd_T26 l0 x11_1).f2)]] rfl (by (try simp only [List.map_toArray, List.map_cons, List.map_nil]); first | done | rfl | (simp only [List.length_drop, List.length_take]; rfl)) ?_; (with_reducible refine (weld_Join.calls k1 x519000_1 x519001_1 x519002_1 x519003_1 x519004_1 x519005_1 ((rd_T26 l0 x11_1).f0.f0) ((rd_T26 l0 x11_1).f0.f1) ((rd_T26 l0 x11_1).f0.f2) ((rd_T26 l0 x11_1).f0.f3) ((rd_T26 l0 x11_1).f1) ((rd_T26 l0 x11_1).f2) t521 t522 t523 t524 t525 t526 t527 _ ?side1 A7.out).mono ?_); (case side1 => first | (with_reducible exact HG.out) | exact Glob.Globs_below HG.out (by repeat (first | (with_reducible first | exact HB.out | apply below_alloc | apply pw_below_drewN | apply below_drew1 | refine below_set ?_ GE517.out | refine below_set ?_ GE518.out | refine below_set ?_ GE520.out) | exact HB.out))); rintro e w28 ⟨rfl, hb⟩; refine ⟨_, rfl, ?_⟩; have n0_ := Aside0.mk (blk_below (g := gb517) (o := .cells #[.int .i64 x518000_1, .int .i64 x518001_1, .int .i64 x518002_1, .int .i64 x518003_1, .string x518004_1, .string x518005_1] 26 (0, 0)) (by refine pl ?_; refine blk_far ?_ NB517_520.out _; refine pl ?_; refine blk_far ?_ NB517_520.out _; refine pl ?_; refine blk_far ?_ NB517_520.out _; refine pl ?_; refine blk_far ?_ NB517_520.out _; refine pl ?_; refine blk_far ?_ NB517_520.out _; refine pl ?_; refine blk_far ?_ NB517_520.out _; refine pl ?_; exact BK517.out) hb); have n1_ := Aside0.mk (blk_below (g := gb518) (o := .cells #[.int .i64 x519000_1, .int .i64 x519001_1, .int .i64 x519002_1, .int .i64 x519003_1, .string x519004_1, .string x519005_1] 26 (0, 0)) (by refine pl ?_; refine blk_far ?_ NB518_520.out _; refine pl ?_; refine blk_far ?_ NB518_520.out _; refine pl ?_; refine blk_far ?_ NB518_520.out _; refine pl ?_; refine blk_far ?_ NB518_520.out _; refine pl ?_; refine blk_far ?_ NB518_520.out _; refine pl ?_; refine blk_far ?_ NB518_520.out _; refine pl ?_; exact BK518.out) hb); have n2_ := Aside0.mk (blk_below (g := gb520) (o := .cells #[.int .i64 ((rd_T26 l0 x11_1).f0.f0), .int .i64 ((rd_T26 l0 x11_1).f0.f1), .int .i64 ((rd_T26 l0 x11_1).f0.f2), .int .i64 ((rd_T26 l0 x11_1).f0.f3), .string ((rd_T26 l0 x11_1).f1), .string ((rd_T26 l0 x11_1).f2)] 26 (0, 0)) (by refine pl ?_; refine blk_put (cs := #[.int .i64 ((rd_T26 l0 x11_1).f0.f0), .int .i64 ((rd_T26 l0 x11_1).f0.f1), .int .i64 ((rd_T26 l0 x11_1).f0.f2), .int .i64 ((rd_T26 l0 x11_1).f0.f3), .string ((rd_T26 l0 x11_1).f1), .string (⟨#[]⟩ : ByteArray)]) ?_ 5 _ rfl; refine pl ?_; refine blk_put (cs := #[.int .i64 ((rd_T26 l0 x11_1).f0.f0), .int .i64 ((rd_T26 l0 x11_1).f0.f1), .int .i64 ((rd_T26 l0 x11_1).f0.f2), .int .i64 ((rd_T26 l0 x11_1).f0.f3), .string (⟨#[]⟩ : ByteArray), .string (⟨#[]⟩ : ByteArray)]) ?_ 4 _ rfl; refine pl ?_; refine blk_put (cs := #[.int .i64 ((rd_T26 l0 x11_1).f0.f0), .int .i64 ((rd_T26 l0 x11_1).f0.f1), .int .i64 ((rd_T26 l0 x11_1).f0.f2), .int .i64 0, .string (⟨#[]⟩ : ByteArray), .string (⟨#[]⟩ : ByteArray)]) ?_ 3 _ rfl; refine pl ?_; refine blk_put (cs := #[.int .i64 ((rd_T26 l0 x11_1).f0.f0), .int .i64 ((rd_T26 l0 x11_1).f0.f1), .int .i64 0, .int .i64 0, .string (⟨#[]⟩ : ByteArray), .string (⟨#[]⟩ : ByteArray)]) ?_ 2 _ rfl; refine pl ?_; refine blk_put (cs := #[.int .i64 ((rd_T26 l0 x11_1).f0.f0), .int .i64 0, .int .i64 0, .int .i64 0, .string (⟨#[]⟩ : ByteArray), .string (⟨#[]⟩ : ByteArray)]) ?_ 1 _ rfl; refine pl ?_; refine blk_put (cs := #[.int .i64 0, .int .i64 0, .int .i64 0, .int .i64 0, .string (⟨#[]⟩ : ByteArray), .string (⟨#[]⟩ : ByteArray)]) ?_ 0 _ rfl; refine pl ?_; exact BK520.out) hb); have n3_ := Aside0.mk (below_step (by repeat (first | (with_reducible first | exact HB.out | apply below_alloc | apply pw_below_drewN | apply below_drew1 | refine below_set ?_ GE517.out | refine below_set ?_ GE518.out | refine below_set ?_ GE520.out) | exact HB.out)) hb); clear BK517; clear BK518; clear BK520; clear HB; have BK517 := n0_; have BK518 := n1_; have BK520 := n2_; have HB := n3_; clear n0_ n1_ n2_ n3_; (try clear hb); (try clear hb2); (try clear hk); (try clear hi)) | ((with_reducible refine gate_dst (N := 7) rfl ?_); refine box_event ?hg (N := 7) ?hd (cs := #[.int .i64 0, .int .i64 0, .int .i64 0, .int .i64 0, .string (⟨#[]⟩ : ByteArray), .string (⟨#[]⟩ : ByteArray)]) (t := 26) ?hr ?_; (case hd => rfl); (case hg => rfl); (case hr => first | (go_simp; done) | (go_simp; rfl)); intro gb528 hg w29 hbox hb; have n0_ := Aside0.mk (blk_below (pl BK517.out) hb); have n1_ := Aside0.mk (blk_below (pl BK518.out) hb); have n2_ := Aside0.mk (blk_below (pl BK520.out) hb); have n3_ := Aside0.mk (below_step (by repeat (first | (with_reducible first | exact HB.out | apply below_alloc | apply pw_below_drewN | apply below_drew1 | refine below_set ?_ GE517.out | refine below_set ?_ GE518.out | refine below_set ?_ GE520.out) | exact HB.out)) hb); have n4_ := Aside0.mk (hbox); have n5_ := Aside0.mk ((by rw [hg]; exact (below_size (by repeat (first | (with_reducible first | exact HB.out | apply below_alloc | apply pw_below_drewN | apply below_drew1 | refine below_set ?_ GE517.out | refine below_set ?_ GE518.out | refine below_set ?_ GE520.out) | exact HB.out))) : w.heap.size ≤ gb528)); have n6_ := Aside0.mk ((by rw [hg]; exact (below_size (by repeat (first | (with_reducible first | exact HB.out | apply below_alloc | apply pw_below_drewN | apply below_drew1 | refine below_set ?_ GE517.out | refine below_set ?_ GE518.out | refine below_set ?_ GE520.out) | exact HB.out))) : w.heap.size ≤ gb528)); have n7_ := Aside0.mk ((by rw [hg]; exact Nat.ne_of_lt (blk_lt (pl BK517.out)) : gb517 ≠ gb528)); have n8_ := Aside0.mk ((by rw [hg]; exact Nat.ne_of_gt (blk_lt (pl BK517.out)) : gb528 ≠ gb517)); have n9_ := Aside0.mk ((by rw [hg]; exact Nat.ne_of_lt (blk_lt (pl BK518.out)) : gb518 ≠ gb528)); have n10_ := Aside0.mk ((by rw [hg]; exact Nat.ne_of_gt (blk_lt (pl BK518.out)) : gb528 ≠ gb518)); have n11_ := Aside0.mk ((by rw [hg]; exact Nat.ne_of_lt (blk_lt (pl BK520.out)) : gb520 ≠ gb528)); have n12_ := Aside0.mk ((by rw [hg]; exact Nat.ne_of_gt (blk_lt (pl BK520.out)) : gb528 ≠ gb520)); clear BK517; clear BK518; clear BK520; clear HB; have BK517 := n0_; have BK518 := n1_; have BK520 := n2_; have HB := n3_; have BK528 := n4_; have GW528 := n5_; have GE528 := n6_; have NB517_528 := n7_; have NB528_517 := n8_; have NB518_528 := n9_; have NB528_518 := n10_; have NB520_528 := n11_; have NB528_520 := n12_; clear n0_ n1_ n2_ n3_ n4_ n5_ n6_ n7_ n8_ n9_ n10_ n11_ n12_; clear hb hbox hg; have hnb30 := NB528_517.out; have hnc30 := NB517_528.out; have hnb31 := NB528_518.out; have hnc31 := NB518_528.out; have hnb32 := NB528_520.out; have hnc32 := NB520_528.out; have hcz33_0 : w29.cell? ⟨gb528, 0, none⟩ = some (.int .i64 0) := (blk_cell BK528.out 0).trans rfl; have hcz33_1 : w29.cell? ⟨gb528, 1, none⟩ = some (.int .i64 0) := (blk_cell BK528.out 1).trans rfl; have hcz33_2 : w29.cell? ⟨gb528, 2, none⟩ = some (.int .i64 0) := (blk_cell BK528.out 2).trans rfl; have hcz33_3 : w29.cell? ⟨gb528, 3, none⟩ = some (.int .i64 0) := (blk_cell BK528.out 3).trans rfl; have hcz33_4 : w29.cell? ⟨gb528, 4, none⟩ = some (.string (⟨#[]⟩ : ByteArray)) := (blk_cell BK528.out 4).trans rfl; have hcz33_5 : w29.cell? ⟨gb528, 5, none⟩ = some (.string (⟨#[]⟩ : ByteArray)) := (blk_cell BK528.out 5).trans rfl; have hfz33_0 := blk_frozen BK528.out 0; have hfz33_1 := blk_frozen BK528.out 1; have hfz33_2 := blk_frozen BK528.out 2; have hfz33_3 := blk_frozen BK528.out 3; have hfz33_4 := blk_frozen BK528.out 4; have hfz33_5 := blk_frozen BK528.out 5; have hcz34_0 : w29.cell? ⟨gb517, 0, none⟩ = some (.int .i64 x518000_1) := (blk_cell BK517.out 0).trans rfl; have hcz34_1 : w29.cell? ⟨gb517, 1, none⟩ = some (.int .i64 x518001_1) := (blk_cell BK517.out 1).trans rfl; have hcz34_2 : w29.cell? ⟨gb517, 2, none⟩ = some (.int .i64 x518002_1) := (blk_cell BK517.out 2).trans rfl; have hcz34_3 : w29.cell? ⟨gb517, 3, none⟩ = some (.int .i64 x518003_1) := (blk_cell BK517.out 3).trans rfl; have hcz34_4 : w29.cell? ⟨gb517, 4, none⟩ = some (.string x518004_1) := (blk_cell BK517.out 4).trans rfl; have hcz34_5 : w29.cell? ⟨gb517, 5, none⟩ = some (.string x518005_1) := (blk_cell BK517.out 5).trans rfl; have hfz34_0 := blk_frozen BK517.out 0; have hfz34_1 := blk_frozen BK517.out 1; have hfz34_2 := blk_frozen BK517.out 2; have hfz34_3 := blk_frozen BK517.out 3; have hfz34_4 := blk_frozen BK517.out 4; have hfz34_5 := blk_frozen BK517.out 5))
       refine bodyPost_ret (results_ct rfl _ _ gb517 26 #[.int .i64 0, .int .i64 0, .int .i64 0, .int .i64 0, .string (⟨#[]⟩ : ByteArray), .string (⟨#[]⟩ : ByteArray)] (0, 0) _ rfl (by refine pl ?_; refine blk_put (cs := #[.int .i64 0, .int .i64 0, .int .i64 0, .int .i64 0, .string (⟨#[]⟩ : ByteArray), .string x518005_1]) ?_ 5 _ rfl; refine pl ?_; refine blk_put (cs := #[.int .i64 0, .int .i64 0, .int .i64 0, .int .i64 0, .string x518004_1, .string x518005_1]) ?_ 4 _ rfl; refine pl ?_; refine blk_put (cs := #[.int .i64 0, .int .i64 0, .int .i64 0, .int .i64 x518003_1, .string x518004_1, .string x518005_1]) ?_ 3 _ rfl; refine pl ?_; refine blk_put (cs := #[.int .i64 0, .int .i64 0, .int .i64 x518002_1, .int .i64 x518003_1, .string x518004_1, .string x518005_1]) ?_ 2 _ rfl; refine pl ?_; refine blk_put (cs := #[.int .i64 0, .int .i64 x518001_1, .int .i64 x518002_1, .int .i64 x518003_1, .string x518004_1, .string x518005_1]) ?_ 1 _ rfl; refine pl ?_; refine blk_put (cs := #[.int .i64 x518000_1, .int .i64 x518001_1, .int .i64 x518002_1, .int .i64 x518003_1, .string x518004_1, .string x518005_1]) ?_ 0 _ rfl; refine pl ?_; refine blk_far ?_ NB517_528.out _; refine pl ?_; refine blk_far ?_ NB517_528.out _; refine pl ?_; refine blk_far ?_ NB517_528.out _; refine pl ?_; refine blk_far ?_ NB517_528.out _; refine pl ?_; refine blk_far ?_ NB517_528.out _; refine pl ?_; refine blk_far ?_ NB517_528.out _; refine pl ?_; exact BK517.out) Tryd.underlying26 rfl (by kernel_rfl)) rfl ?_
       exact ⟨by first | rfl | (simp [errW_none, errW_some] <;> rfl) | (simp [*, errW_none, errW_some] <;> rfl), by repeat (first | (with_reducible first | exact HB.out | apply below_alloc | apply pw_below_drewN | apply below_drew1 | refine below_set ?_ GE517.out | refine below_set ?_ GE518.out | refine below_set ?_ GE520.out | refine below_set ?_ GE528.out) | exact HB.out)⟩
     ·rw [if_neg c6] at H
      exact absurd H (by simp)
    ·rw [if_neg c5] at H
     exact absurd H (by simp)
   ·rw [if_neg c4] at H
    have c4b0 : decide (x11_1 < (l0.length : Int)) = false := decide_eq_false c4
    clear c4
    simp only [Option.some.injEq, Prod.mk.injEq] at H
    obtain ⟨rfl, rfl, rfl, rfl, rfl, rfl, rfl⟩ := H
    have hnb35 := NB518_517.out
    have hnc35 := NB517_518.out
    obtain ⟨hcz36_0, hcz36_1, hcz36_2, hcz36_3, hcz36_4, hcz36_5⟩ := c6 BK518.out
    obtain ⟨hfz36_0, hfz36_1, hfz36_2, hfz36_3, hfz36_4, hfz36_5⟩ := f6 BK518.out
    obtain ⟨hcz37_0, hcz37_1, hcz37_2, hcz37_3, hcz37_4, hcz37_5⟩ := c6 BK517.out
    obtain ⟨hfz37_0, hfz37_1, hfz37_2, hfz37_3, hfz37_4, hfz37_5⟩ := f6 BK517.out
    go_wp2
    refine bodyPost_ret (results_ct rfl _ _ gb517 26 #[.int .i64 x519000_1, .int .i64 x519001_1, .int .i64 x519002_1, .int .i64 x519003_1, .string x519004_1, .string x519005_1] (0, 0) _ rfl (by refine pl ?_; refine blk_put (cs := #[.int .i64 x519000_1, .int .i64 x519001_1, .int .i64 x519002_1, .int .i64 x519003_1, .string x519004_1, .string x518005_1]) ?_ 5 _ rfl; refine pl ?_; refine blk_put (cs := #[.int .i64 x519000_1, .int .i64 x519001_1, .int .i64 x519002_1, .int .i64 x519003_1, .string x518004_1, .string x518005_1]) ?_ 4 _ rfl; refine pl ?_; refine blk_put (cs := #[.int .i64 x519000_1, .int .i64 x519001_1, .int .i64 x519002_1, .int .i64 x518003_1, .string x518004_1, .string x518005_1]) ?_ 3 _ rfl; refine pl ?_; refine blk_put (cs := #[.int .i64 x519000_1, .int .i64 x519001_1, .int .i64 x518002_1, .int .i64 x518003_1, .string x518004_1, .string x518005_1]) ?_ 2 _ rfl; refine pl ?_; refine blk_put (cs := #[.int .i64 x519000_1, .int .i64 x518001_1, .int .i64 x518002_1, .int .i64 x518003_1, .string x518004_1, .string x518005_1]) ?_ 1 _ rfl; refine pl ?_; refine blk_put (cs := #[.int .i64 x518000_1, .int .i64 x518001_1, .int .i64 x518002_1, .int .i64 x518003_1, .string x518004_1, .string x518005_1]) ?_ 0 _ rfl; refine pl ?_; exact BK517.out) Tryd.underlying26 rfl (by kernel_rfl)) rfl ?_
    exact ⟨by first | rfl | (simp [errW_none, errW_some] <;> rfl) | (simp [*, errW_none, errW_some] <;> rfl), by repeat (first | (with_reducible first | exact HB.out | apply below_alloc | apply pw_below_drewN | apply below_drew1 | refine below_set ?_ GE517.out | refine below_set ?_ GE518.out) | exact HB.out)⟩
end Go.Proofs.YtaojbcplmdjfnaaDoor.Pr

namespace Go.Proofs.YtaojbcplmdjfnaaDoor.Pr
open Go.RowKit Go.Proofs.YtaojbcplmdjfnaaDoorW.PrintWords Go.Proofs.YtaojbcplmdjfnaaDoorW.PrintLast Go.Proofs.YtaojbcplmdjfnaaDoorW.PrintMore
attribute [local go_sem] max2_int min2_int max_two min_two max_three min_three max_four min_four   -- for this text's walks alone
set_option linter.unusedVariables false
set_option linter.unusedSimpArgs false
def galleylaw05_halves.f : Nat → List (S26) → Option (Int × Int × Int × Int × ByteArray × ByteArray × Bool)
 | 0, _ => none
 | k + 1, l0 => if (l0.length : Int) = 0 then ((weld_Of.f ([] : List Int)).bind fun bt572 => (some (bt572.1, bt572.2.1, bt572.2.2.1, bt572.2.2.2.1, bt572.2.2.2.2.1, bt572.2.2.2.2.2, true))) else (if (l0.length : Int) = 1 then (if 0 < (l0.length : Int) then (some ((rd_T26 l0 0).f0.f0, (rd_T26 l0 0).f0.f1, (rd_T26 l0 0).f0.f2, (rd_T26 l0 0).f0.f3, (rd_T26 l0 0).f1, (rd_T26 l0 0).f2, true)) else (none)) else (if 0 ≤ (wrap64 ((l0.length : Int) / 2)) then (if (wrap64 ((l0.length : Int) / 2)) ≤ (l0.length : Int) then ((galleylaw05_halves.f k (l0.take ((wrap64 ((l0.length : Int) / 2)) : Int).toNat)).bind fun bt583 => ((galleylaw05_halves.f k (l0.drop ((wrap64 ((l0.length : Int) / 2)) : Int).toNat)).bind fun bt595 => ((weld_Join.f k bt583.1 bt583.2.1 bt583.2.2.1 bt583.2.2.2.1 bt583.2.2.2.2.1 bt583.2.2.2.2.2.1 bt595.1 bt595.2.1 bt595.2.2.1 bt595.2.2.2.1 bt595.2.2.2.2.1 bt595.2.2.2.2.2.1).bind fun bt603 => (if bt583.2.2.2.2.2.2 = true then (if bt595.2.2.2.2.2.2 = true then (some (bt603.1, bt603.2.1, bt603.2.2.1, bt603.2.2.2.1, bt603.2.2.2.2.1, bt603.2.2.2.2.2.1, (bt603.2.2.2.2.2.2 == 0))) else (some (bt603.1, bt603.2.1, bt603.2.2.1, bt603.2.2.2.1, bt603.2.2.2.2.1, bt603.2.2.2.2.2.1, false))) else (some (bt603.1, bt603.2.1, bt603.2.2.1, bt603.2.2.2.1, bt603.2.2.2.2.1, bt603.2.2.2.2.2.1, false)))))) else (none)) else (none)))
set_option maxHeartbeats 8000000 in
set_option maxRecDepth 100000 in
theorem galleylaw05_halves.calls (k : Nat) : ∀ (A0 : Option Addr) (c0 : Nat) (l0 : List (S26)) (r1 : Int) (r2 : Int) (r3 : Int) (r4 : Int) (r5 : ByteArray) (r6 : ByteArray) (r7 : Bool) (w : World) (hG : Glob.Globs w) (hr0 : Kd.C k26 w A0 l0.length l0) (hc0 : l0.length ≤ c0) (h : galleylaw05_halves.f k l0 = some (r1, r2, r3, r4, r5, r6, r7)),
  Calls Tryd.prog 23 #[.slice A0 l0.length c0] w fun e w' => e = .returned (.tuple #[.agg #[.int .i64 r1, .int .i64 r2, .int .i64 r3, .int .i64 r4, .string r5, .string r6], .bool r7]) ∧ Below w.heap.size w w' := by
 induction k using Nat.strongRecOn with
 | _ k ih =>
 intro A0 c0 l0 r1 r2 r3 r4 r5 r6 r7 w hG hr0 hc0 h
 cases k with
 | zero => exact absurd h (by simp [galleylaw05_halves.f])
 | succ k =>
 simp only [galleylaw05_halves.f] at h
 have hu26 := Tryd.underlying26
 have HG := Aside0.mk hG
 clear hG
 have HR0 := Aside0.mk hr0
 have HC0 := Aside0.mk hc0
 clear hr0 hc0
 have HB := Aside0.mk (Below.refl w.heap.size w)
 have H : (if (l0.length : Int) = 0 then ((weld_Of.f ([] : List Int)).bind fun bt572 => (some (bt572.1, bt572.2.1, bt572.2.2.1, bt572.2.2.2.1, bt572.2.2.2.2.1, bt572.2.2.2.2.2, true))) else (if (l0.length : Int) = 1 then (if 0 < (l0.length : Int) then (some ((rd_T26 l0 0).f0.f0, (rd_T26 l0 0).f0.f1, (rd_T26 l0 0).f0.f2, (rd_T26 l0 0).f0.f3, (rd_T26 l0 0).f1, (rd_T26 l0 0).f2, true)) else (none)) else (if 0 ≤ (wrap64 ((l0.length : Int) / 2)) then (if (wrap64 ((l0.length : Int) / 2)) ≤ (l0.length : Int) then ((galleylaw05_halves.f k (l0.take ((wrap64 ((l0.length : Int) / 2)) : Int).toNat)).bind fun bt583 => ((galleylaw05_halves.f k (l0.drop ((wrap64 ((l0.length : Int) / 2)) : Int).toNat)).bind fun bt595 => ((weld_Join.f k bt583.1 bt583.2.1 bt583.2.2.1 bt583.2.2.2.1 bt583.2.2.2.2.1 bt583.2.2.2.2.2.1 bt595.1 bt595.2.1 bt595.2.2.1 bt595.2.2.2.1 bt595.2.2.2.2.1 bt595.2.2.2.2.2.1).bind fun bt603 => (if bt583.2.2.2.2.2.2 = true then (if bt595.2.2.2.2.2.2 = true then (some (bt603.1, bt603.2.1, bt603.2.2.1, bt603.2.2.2.1, bt603.2.2.2.2.1, bt603.2.2.2.2.2.1, (bt603.2.2.2.2.2.2 == 0))) else (some (bt603.1, bt603.2.1, bt603.2.2.1, bt603.2.2.2.1, bt603.2.2.2.2.1, bt603.2.2.2.2.2.1, false))) else (some (bt603.1, bt603.2.1, bt603.2.2.1, bt603.2.2.2.1, bt603.2.2.2.2.1, bt603.2.2.2.2.2.1, false)))))) else (none)) else (none)))) = some (r1, r2, r3, r4, r5, r6, r7) := h
 clear h
 by_cases c2 : (l0.length : Int) = 0
 ·rw [if_pos c2] at H
  have c2b0 : ((l0.length : Int) == 0) = true := beq_iff_eq.mpr c2
  have c2b1 : ((l0.length : Int) != 0) = false := bne_eq_false_iff_eq.mpr c2
  clear c2
  replace H := Option.bind_eq_some_iff.mp H
  obtain ⟨⟨t572, t573, t574, t575, t576, t577⟩, A30, H⟩ := H
  replace H : (some (t572, t573, t574, t575, t576, t577, true)) = some (r1, r2, r3, r4, r5, r6, r7) := H
  have A3 := Aside0.mk A30
  clear A30
  simp only [Option.some.injEq, Prod.mk.injEq] at H
  obtain ⟨rfl, rfl, rfl, rfl, rfl, rfl, rfl⟩ := H
  go_enter Tryd.func23, Tryd.ntmps23
  go_wp2_with (first | ((with_reducible refine gate_dst (N := 2) rfl ?_); refine box_event ?hg (N := 2) ?hd (cs := #[.int .i64 0, .int .i64 0, .int .i64 0, .int .i64 0, .string (⟨#[]⟩ : ByteArray), .string (⟨#[]⟩ : ByteArray)]) (t := 26) ?hr ?_; (case hd => rfl); (case hg => rfl); (case hr => first | (go_simp; done) | (go_simp; rfl)); intro gb571 hg w4 hbox hb; have n0_ := Aside0.mk (below_step (bl HB.out) hb); have n1_ := Aside0.mk (hbox); have n2_ := Aside0.mk ((by rw [hg]; exact (below_size (bl HB.out)) : w.heap.size ≤ gb571)); have n3_ := Aside0.mk ((by rw [hg]; exact (below_size (bl HB.out)) : w.heap.size ≤ gb571)); clear HB; have HB := n0_; have BK571 := n1_; have GW571 := n2_; have GE571 := n3_; clear n0_ n1_ n2_ n3_; clear hb hbox hg) | ((with_reducible refine gate_callee (f := 12) rfl ?_); refine goesL_ (some 14) rfl rfl Tryd.func12 (by kernel_rfl) rfl #[.slice none 0 0] rfl (by (try simp only [List.map_toArray, List.map_cons, List.map_nil]); first | done | rfl | (simp only [List.length_drop, List.length_take]; rfl)) ?_; (refine (weld_Of.calls _ _ ([] : List Int) t572 t573 t574 t575 t576 t577 _ ?side1 ?side2 ?side3 A3.out).mono ?_); (case side1 => first | (with_reducible exact HG.out) | exact Glob.Globs_below HG.out (by repeat (first | (with_reducible first | exact HB.out | apply below_alloc | apply pw_below_drewN | apply below_drew1 | refine below_set ?_ GE571.out) | exact HB.out))); (case side2 => exact Kd.C_nil _ _); (case side3 => exact Nat.le_refl _); rintro e w5 ⟨rfl, hb⟩; refine ⟨_, rfl, ?_⟩; have n0_ := Aside0.mk (blk_below (pl BK571.out) hb); have n1_ := Aside0.mk (below_step (by repeat (first | (with_reducible first | exact HB.out | apply below_alloc | apply pw_below_drewN | apply below_drew1 | refine below_set ?_ GE571.out) | exact HB.out)) hb); clear BK571; clear HB; have BK571 := n0_; have HB := n1_; clear n0_ n1_; (try clear hb); (try clear hb2); (try clear hk); (try clear hi); have hcz6_0 : w5.cell? ⟨gb571, 0, none⟩ = some (.int .i64 0) := (blk_cell BK571.out 0).trans rfl; have hcz6_1 : w5.cell? ⟨gb571, 1, none⟩ = some (.int .i64 0) := (blk_cell BK571.out 1).trans rfl; have hcz6_2 : w5.cell? ⟨gb571, 2, none⟩ = some (.int .i64 0) := (blk_cell BK571.out 2).trans rfl; have hcz6_3 : w5.cell? ⟨gb571, 3, none⟩ = some (.int .i64 0) := (blk_cell BK571.out 3).trans rfl; have hcz6_4 : w5.cell? ⟨gb571, 4, none⟩ = some (.string (⟨#[]⟩ : ByteArray)) := (blk_cell BK571.out 4).trans rfl; have hcz6_5 : w5.cell? ⟨gb571, 5, none⟩ = some (.string (⟨#[]⟩ : ByteArray)) := (blk_cell BK571.out 5).trans rfl; have hfz6_0 := blk_frozen BK571.out 0; have hfz6_1 := blk_frozen BK571.out 1; have hfz6_2 := blk_frozen BK571.out 2; have hfz6_3 := blk_frozen BK571.out 3; have hfz6_4 := blk_frozen BK571.out 4; have hfz6_5 := blk_frozen BK571.out 5))
  refine bodyPost_ret (results_ct rfl _ _ gb571 26 #[.int .i64 t572, .int .i64 t573, .int .i64 t574, .int .i64 t575, .string t576, .string t577] (0, 0) _ rfl (by refine pl ?_; refine blk_put (cs := #[.int .i64 t572, .int .i64 t573, .int .i64 t574, .int .i64 t575, .string t576, .string (⟨#[]⟩ : ByteArray)]) ?_ 5 _ rfl; refine pl ?_; refine blk_put (cs := #[.int .i64 t572, .int .i64 t573, .int .i64 t574, .int .i64 t575, .string (⟨#[]⟩ : ByteArray), .string (⟨#[]⟩ : ByteArray)]) ?_ 4 _ rfl; refine pl ?_; refine blk_put (cs := #[.int .i64 t572, .int .i64 t573, .int .i64 t574, .int .i64 0, .string (⟨#[]⟩ : ByteArray), .string (⟨#[]⟩ : ByteArray)]) ?_ 3 _ rfl; refine pl ?_; refine blk_put (cs := #[.int .i64 t572, .int .i64 t573, .int .i64 0, .int .i64 0, .string (⟨#[]⟩ : ByteArray), .string (⟨#[]⟩ : ByteArray)]) ?_ 2 _ rfl; refine pl ?_; refine blk_put (cs := #[.int .i64 t572, .int .i64 0, .int .i64 0, .int .i64 0, .string (⟨#[]⟩ : ByteArray), .string (⟨#[]⟩ : ByteArray)]) ?_ 1 _ rfl; refine pl ?_; refine blk_put (cs := #[.int .i64 0, .int .i64 0, .int .i64 0, .int .i64 0, .string (⟨#[]⟩ : ByteArray), .string (⟨#[]⟩ : ByteArray)]) ?_ 0 _ rfl; refine pl ?_; exact BK571.out) Tryd.underlying26 rfl (by kernel_rfl)) rfl ?_
  exact ⟨by first | rfl | (simp [errW_none, errW_some] <;> rfl) | (simp [*, errW_none, errW_some] <;> rfl), by repeat (first | (with_reducible first | exact HB.out | apply below_alloc | apply pw_below_drewN | apply below_drew1 | refine below_set ?_ GE571.out) | exact HB.out)⟩
 ·rw [if_neg c2] at H
  have c2b0 : ((l0.length : Int) == 0) = false := beq_eq_false_iff_ne.mpr c2
  have c2b1 : ((l0.length : Int) != 0) = true := bne_iff_ne.mpr c2
  have c2b2 : ¬ (l0 = []) := fun h_ => c2 (by rw [h_]; rfl)
  by_cases c7 : (l0.length : Int) = 1
  ·rw [if_pos c7] at H
   have c7b0 : ((l0.length : Int) == 1) = true := beq_iff_eq.mpr c7
   have c7b1 : ((l0.length : Int) != 1) = false := bne_eq_false_iff_eq.mpr c7
   clear c7
   by_cases c8 : 0 < (l0.length : Int)
   ·rw [if_pos c8] at H
    have c8b0 : decide (0 < (l0.length : Int)) = true := decide_eq_true c8
    have c8b1 : decide (0 < l0.length) = true := decide_eq_true (by omega)
    clear c8
    simp only [Option.some.injEq, Prod.mk.injEq] at H
    obtain ⟨rfl, rfl, rfl, rfl, rfl, rfl, rfl⟩ := H
    go_enter Tryd.func23, Tryd.ntmps23
    go_wp2_with (first | ((with_reducible refine gate_dst (N := 2) rfl ?_); refine box_event ?hg (N := 2) ?hd (cs := #[.int .i64 0, .int .i64 0, .int .i64 0, .int .i64 0, .string (⟨#[]⟩ : ByteArray), .string (⟨#[]⟩ : ByteArray)]) (t := 26) ?hr ?_; (case hd => rfl); (case hg => rfl); (case hr => first | (go_simp; done) | (go_simp; rfl)); intro gb571 hg w9 hbox hb; have n0_ := Aside0.mk (below_step (bl HB.out) hb); have n1_ := Aside0.mk (hbox); have n2_ := Aside0.mk ((by rw [hg]; exact (below_size (bl HB.out)) : w.heap.size ≤ gb571)); have n3_ := Aside0.mk ((by rw [hg]; exact (below_size (bl HB.out)) : w.heap.size ≤ gb571)); clear HB; have HB := n0_; have BK571 := n1_; have GW571 := n2_; have GE571 := n3_; clear n0_ n1_ n2_ n3_; clear hb hbox hg; have p578 : 0 ≤ (0 : Int) := (by omega); have q578 : 0 < (l0.length : Int) := of_decide_eq_true (by first | (with_reducible assumption) | assumption); obtain ⟨ad578, e578, hx578_0, hx578_1, hx578_2, hx578_3, hx578_4, hx578_5⟩ := at_T26 HR0.out 0 p578 q578; cases e578; have qi578 : (0 < l0.length) = True := eq_true (by omega); (try rw [show ((0 : Int)).toNat = 0 from rfl] at hx578_0); (try rw [show 0 * 6 = 0 from rfl] at hx578_0); (try rw [Addr.add_zero'] at hx578_0); (try rw [show ((0 : Int)).toNat = 0 from rfl] at hx578_1); (try rw [show 0 * 6 = 0 from rfl] at hx578_1); (try rw [Addr.add_zero'] at hx578_1); (try rw [show ((0 : Int)).toNat = 0 from rfl] at hx578_2); (try rw [show 0 * 6 = 0 from rfl] at hx578_2); (try rw [Addr.add_zero'] at hx578_2); (try rw [show ((0 : Int)).toNat = 0 from rfl] at hx578_3); (try rw [show 0 * 6 = 0 from rfl] at hx578_3); (try rw [Addr.add_zero'] at hx578_3); (try rw [show ((0 : Int)).toNat = 0 from rfl] at hx578_4); (try rw [show 0 * 6 = 0 from rfl] at hx578_4); (try rw [Addr.add_zero'] at hx578_4); (try rw [show ((0 : Int)).toNat = 0 from rfl] at hx578_5); (try rw [show 0 * 6 = 0 from rfl] at hx578_5); (try rw [Addr.add_zero'] at hx578_5); replace hx578_0 := (HB.out.cell (World.block_lt_of_cell? w _ hx578_0)).trans hx578_0; replace hx578_1 := (HB.out.cell (World.block_lt_of_cell? w _ hx578_1)).trans hx578_1; replace hx578_2 := (HB.out.cell (World.block_lt_of_cell? w _ hx578_2)).trans hx578_2; replace hx578_3 := (HB.out.cell (World.block_lt_of_cell? w _ hx578_3)).trans hx578_3; replace hx578_4 := (HB.out.cell (World.block_lt_of_cell? w _ hx578_4)).trans hx578_4; replace hx578_5 := (HB.out.cell (World.block_lt_of_cell? w _ hx578_5)).trans hx578_5; replace p578 := eq_true p578; replace q578 := eq_true q578; have hcz10_0 : w9.cell? ⟨gb571, 0, none⟩ = some (.int .i64 0) := (blk_cell BK571.out 0).trans rfl; have hcz10_1 : w9.cell? ⟨gb571, 1, none⟩ = some (.int .i64 0) := (blk_cell BK571.out 1).trans rfl; have hcz10_2 : w9.cell? ⟨gb571, 2, none⟩ = some (.int .i64 0) := (blk_cell BK571.out 2).trans rfl; have hcz10_3 : w9.cell? ⟨gb571, 3, none⟩ = some (.int .i64 0) := (blk_cell BK571.out 3).trans rfl; have hcz10_4 : w9.cell? ⟨gb571, 4, none⟩ = some (.string (⟨#[]⟩ : ByteArray)) := (blk_cell BK571.out 4).trans rfl; have hcz10_5 : w9.cell? ⟨gb571, 5, none⟩ = some (.string (⟨#[]⟩ : ByteArray)) := (blk_cell BK571.out 5).trans rfl; have hfz10_0 := blk_frozen BK571.out 0; have hfz10_1 := blk_frozen BK571.out 1; have hfz10_2 := blk_frozen BK571.out 2; have hfz10_3 := blk_frozen BK571.out 3; have hfz10_4 := blk_frozen BK571.out 4; have hfz10_5 := blk_frozen BK571.out 5))
    refine bodyPost_ret (results_ct rfl _ _ gb571 26 #[.int .i64 ((rd_T26 l0 0).f0.f0), .int .i64 ((rd_T26 l0 0).f0.f1), .int .i64 ((rd_T26 l0 0).f0.f2), .int .i64 ((rd_T26 l0 0).f0.f3), .string ((rd_T26 l0 0).f1), .string ((rd_T26 l0 0).f2)] (0, 0) _ rfl (by refine pl ?_; refine blk_put (cs := #[.int .i64 ((rd_T26 l0 0).f0.f0), .int .i64 ((rd_T26 l0 0).f0.f1), .int .i64 ((rd_T26 l0 0).f0.f2), .int .i64 ((rd_T26 l0 0).f0.f3), .string ((rd_T26 l0 0).f1), .string (⟨#[]⟩ : ByteArray)]) ?_ 5 _ rfl; refine pl ?_; refine blk_put (cs := #[.int .i64 ((rd_T26 l0 0).f0.f0), .int .i64 ((rd_T26 l0 0).f0.f1), .int .i64 ((rd_T26 l0 0).f0.f2), .int .i64 ((rd_T26 l0 0).f0.f3), .string (⟨#[]⟩ : ByteArray), .string (⟨#[]⟩ : ByteArray)]) ?_ 4 _ rfl; refine pl ?_; refine blk_put (cs := #[.int .i64 ((rd_T26 l0 0).f0.f0), .int .i64 ((rd_T26 l0 0).f0.f1), .int .i64 ((rd_T26 l0 0).f0.f2), .int .i64 0, .string (⟨#[]⟩ : ByteArray), .string (⟨#[]⟩ : ByteArray)]) ?_ 3 _ rfl; refine pl ?_; refine blk_put (cs := #[.int .i64 ((rd_T26 l0 0).f0.f0), .int .i64 ((rd_T26 l0 0).f0.f1), .int .i64 0, .int .i64 0, .string (⟨#[]⟩ : ByteArray), .string (⟨#[]⟩ : ByteArray)]) ?_ 2 _ rfl; refine pl ?_; refine blk_put (cs := #[.int .i64 ((rd_T26 l0 0).f0.f0), .int .i64 0, .int .i64 0, .int .i64 0, .string (⟨#[]⟩ : ByteArray), .string (⟨#[]⟩ : ByteArray)]) ?_ 1 _ rfl; refine pl ?_; refine blk_put (cs := #[.int .i64 0, .int .i64 0, .int .i64 0, .int .i64 0, .string (⟨#[]⟩ : ByteArray), .string (⟨#[]⟩ : ByteArray)]) ?_ 0 _ rfl; refine pl ?_; exact BK571.out) Tryd.underlying26 rfl (by kernel_rfl)) rfl ?_
    exact ⟨by first | rfl | (simp [errW_none, errW_some] <;> rfl) | (simp [*, errW_none, errW_some] <;> rfl), by repeat (first | (with_reducible first | exact HB.out | apply below_alloc | apply pw_below_drewN | apply below_drew1 | refine below_set ?_ GE571.out) | exact HB.out)⟩
   ·rw [if_neg c8] at H
    exact absurd H (by simp)
  ·rw [if_neg c7] at H
   have c7b0 : ((l0.length : Int) == 1) = false := beq_eq_false_iff_ne.mpr c7
   have c7b1 : ((l0.length : Int) != 1) = true := bne_iff_ne.mpr c7
   obtain ⟨ji11, hji11⟩ : ∃ j_ : Int, (wrap64 ((l0.length : Int) / 2)) = j_ := ⟨_, rfl⟩
   replace H : (if 0 ≤ (ji11) then (if (ji11) ≤ (l0.length : Int) then ((galleylaw05_halves.f k (l0.take ((ji11) : Int).toNat)).bind fun bt583 => ((galleylaw05_halves.f k (l0.drop ((ji11) : Int).toNat)).bind fun bt595 => ((weld_Join.f k bt583.1 bt583.2.1 bt583.2.2.1 bt583.2.2.2.1 bt583.2.2.2.2.1 bt583.2.2.2.2.2.1 bt595.1 bt595.2.1 bt595.2.2.1 bt595.2.2.2.1 bt595.2.2.2.2.1 bt595.2.2.2.2.2.1).bind fun bt603 => (if bt583.2.2.2.2.2.2 = true then (if bt595.2.2.2.2.2.2 = true then (some (bt603.1, bt603.2.1, bt603.2.2.1, bt603.2.2.2.1, bt603.2.2.2.2.1, bt603.2.2.2.2.2.1, (bt603.2.2.2.2.2.2 == 0))) else (some (bt603.1, bt603.2.1, bt603.2.2.1, bt603.2.2.2.1, bt603.2.2.2.2.1, bt603.2.2.2.2.2.1, false))) else (some (bt603.1, bt603.2.1, bt603.2.2.1, bt603.2.2.2.1, bt603.2.2.2.2.1, bt603.2.2.2.2.2.1, false)))))) else (none)) else (none)) = some (r1, r2, r3, r4, r5, r6, r7) := by first | (rw [hji11] at H; exact H) | (simp only [hji11] at H ⊢; exact H)
   have hji11w : (IntKind.i64.wrap ((l0.length : Int) / 2)) = ji11 := (i64_w _).trans hji11
   by_cases c12 : 0 ≤ (ji11)
   ·rw [if_pos c12] at H
    have c12b0 := eq_true c12
    have c12b1 : decide (0 ≤ (ji11)) = true := decide_eq_true c12
    clear c12
    by_cases c13 : (ji11) ≤ (l0.length : Int)
    ·rw [if_pos c13] at H
     have c13b0 := eq_true c13
     have c13b1 : decide ((ji11) ≤ (l0.length : Int)) = true := decide_eq_true c13
     clear c13
     obtain ⟨y579, hy579⟩ : ∃ y_ : List (S26), y_ = (l0.take ((ji11) : Int).toNat) := ⟨_, rfl⟩
     replace H : ((galleylaw05_halves.f k y579).bind fun bt583 => ((galleylaw05_halves.f k (l0.drop ((ji11) : Int).toNat)).bind fun bt595 => ((weld_Join.f k bt583.1 bt583.2.1 bt583.2.2.1 bt583.2.2.2.1 bt583.2.2.2.2.1 bt583.2.2.2.2.2.1 bt595.1 bt595.2.1 bt595.2.2.1 bt595.2.2.2.1 bt595.2.2.2.2.1 bt595.2.2.2.2.2.1).bind fun bt603 => (if bt583.2.2.2.2.2.2 = true then (if bt595.2.2.2.2.2.2 = true then (some (bt603.1, bt603.2.1, bt603.2.2.1, bt603.2.2.2.1, bt603.2.2.2.2.1, bt603.2.2.2.2.2.1, (bt603.2.2.2.2.2.2 == 0))) else (some (bt603.1, bt603.2.1, bt603.2.2.1, bt603.2.2.2.1, bt603.2.2.2.2.1, bt603.2.2.2.2.2.1, false))) else (some (bt603.1, bt603.2.1, bt603.2.2.1, bt603.2.2.2.1, bt603.2.2.2.2.1, bt603.2.2.2.2.2.1, false)))))) = some (r1, r2, r3, r4, r5, r6, r7) := by first | (rw [hy579]; with_reducible exact H) | (have H2_ := (Option.bind_some _ _).symm.trans H; rw [hy579]; with_reducible exact H2_) | (have H2_ := (Option.bind_some _ _).symm.trans H; with_reducible exact H2_) | with_reducible exact H | (rw [hy579]; exact H) | exact H
     have Ny579 := Aside0.mk hy579
     clear hy579
     replace H := Option.bind_eq_some_iff.mp H
     obtain ⟨⟨t583, t584, t585, t586, t587, t588, t589⟩, A140, H⟩ := H
     replace H : ((galleylaw05_halves.f k (l0.drop ((ji11) : Int).toNat)).bind fun bt595 => ((weld_Join.f k t583 t584 t585 t586 t587 t588 bt595.1 bt595.2.1 bt595.2.2.1 bt595.2.2.2.1 bt595.2.2.2.2.1 bt595.2.2.2.2.2.1).bind fun bt603 => (if t589 = true then (if bt595.2.2.2.2.2.2 = true then (some (bt603.1, bt603.2.1, bt603.2.2.1, bt603.2.2.2.1, bt603.2.2.2.2.1, bt603.2.2.2.2.2.1, (bt603.2.2.2.2.2.2 == 0))) else (some (bt603.1, bt603.2.1, bt603.2.2.1, bt603.2.2.2.1, bt603.2.2.2.2.1, bt603.2.2.2.2.2.1, false))) else (some (bt603.1, bt603.2.1, bt603.2.2.1, bt603.2.2.2.1, bt603.2.2.2.2.1, bt603.2.2.2.2.2.1, false))))) = some (r1, r2, r3, r4, r5, r6, r7) := H
     have A14 := Aside0.mk A140
     clear A140
     have c15b0 := eq_true (of_decide_eq_true (by first | (with_reducible assumption) | assumption) : 0 ≤ (ji11))
     have c16b0 := eq_true (of_decide_eq_true (by first | (with_reducible assumption) | assumption) : (ji11) ≤ (l0.length : Int))
     obtain ⟨y591, hy591⟩ : ∃ y_ : List (S26), y_ = (l0.drop ((ji11) : Int).toNat) := ⟨_, rfl⟩
     replace H : ((galleylaw05_halves.f k y591).bind fun bt595 => ((weld_Join.f k t583 t584 t585 t586 t587 t588 bt595.1 bt595.2.1 bt595.2.2.1 bt595.2.2.2.1 bt595.2.2.2.2.1 bt595.2.2.2.2.2.1).bind fun bt603 => (if t589 = true then (if bt595.2.2.2.2.2.2 = true then (some (bt603.1, bt603.2.1, bt603.2.2.1, bt603.2.2.2.1, bt603.2.2.2.2.1, bt603.2.2.2.2.2.1, (bt603.2.2.2.2.2.2 == 0))) else (some (bt603.1, bt603.2.1, bt603.2.2.1, bt603.2.2.2.1, bt603.2.2.2.2.1, bt603.2.2.2.2.2.1, false))) else (some (bt603.1, bt603.2.1, bt603.2.2.1, bt603.2.2.2.1, bt603.2.2.2.2.1, bt603.2.2.2.2.2.1, false))))) = some (r1, r2, r3, r4, r5, r6, r7) := by first | (rw [hy591]; with_reducible exact H) | (have H2_ := (Option.bind_some _ _).symm.trans H; rw [hy591]; with_reducible exact H2_) | (have H2_ := (Option.bind_some _ _).symm.trans H; with_reducible exact H2_) | with_reducible exact H | (rw [hy591]; exact H) | exact H
     have Ny591 := Aside0.mk hy591
     clear hy591
     replace H := Option.bind_eq_some_iff.mp H
     obtain ⟨⟨t595, t596, t597, t598, t599, t600, t601⟩, A170, H⟩ := H
     replace H : ((weld_Join.f k t583 t584 t585 t586 t587 t588 t595 t596 t597 t598 t599 t600).bind fun bt603 => (if t589 = true then (if t601 = true then (some (bt603.1, bt603.2.1, bt603.2.2.1, bt603.2.2.2.1, bt603.2.2.2.2.1, bt603.2.2.2.2.2.1, (bt603.2.2.2.2.2.2 == 0))) else (some (bt603.1, bt603.2.1, bt603.2.2.1, bt603.2.2.2.1, bt603.2.2.2.2.1, bt603.2.2.2.2.2.1, false))) else (some (bt603.1, bt603.2.1, bt603.2.2.1, bt603.2.2.2.1, bt603.2.2.2.2.1, bt603.2.2.2.2.2.1, false)))) = some (r1, r2, r3, r4, r5, r6, r7) := H
     have A17 := Aside0.mk A170
     clear A170
     replace H := Option.bind_eq_some_iff.mp H
     obtain ⟨⟨t603, t604, t605, t606, t607, t608, t609⟩, A180, H⟩ := H
     replace H : (if t589 = true then (if t601 = true then (some (t603, t604, t605, t606, t607, t608, (t609 == 0))) else (some (t603, t604, t605, t606, t607, t608, false))) else (some (t603, t604, t605, t606, t607, t608, false))) = some (r1, r2, r3, r4, r5, r6, r7) := H
     have A18 := Aside0.mk A180
     clear A180
     by_cases c19 : t589 = true
     ·subst c19
      have H1 : (if t601 = true then (some (t603, t604, t605, t606, t607, t608, (t609 == 0))) else (some (t603, t604, t605, t606, t607, t608, false))) = some (r1, r2, r3, r4, r5, r6, r7) := by rw [if_pos rfl] at H; exact H
      clear H
      have H := H1
      clear H1
      by_cases c20 : t601 = true
      ·subst c20
       have H1 : (some (t603, t604, t605, t606, t607, t608, (t609 == 0))) = some (r1, r2, r3, r4, r5, r6, r7) := by rw [if_pos rfl] at H; exact H
       clear H
       have H := H1
       clear H1
       simp only [Option.some.injEq, Prod.mk.injEq] at H
       obtain ⟨rfl, rfl, rfl, rfl, rfl, rfl, rfl⟩ := H
       go_enter Tryd.func23, Tryd.ntmps23
       go_wp2_with (first | ((with_reducible refine gate_dst (N := 2) rfl ?_); refine box_event ?hg (N := 2) ?hd (cs := #[.int .i64 0, .int .i64 0, .int .i64 0, .int .i64 0, .string (⟨#[]⟩ : ByteArray), .string (⟨#[]⟩ : ByteArray)]) (t := 26) ?hr ?_; (case hd => rfl); (case hg => rfl); (case hr => first | (go_simp; done) | (go_simp; rfl)); intro gb571 hg w21 hbox hb; have n0_ := Aside0.mk (below_step (bl HB.out) hb); have n1_ := Aside0.mk (hbox); have n2_ := Aside0.mk ((by rw [hg]; exact (below_size (bl HB.out)) : w.heap.size ≤ gb571)); have n3_ := Aside0.mk ((by rw [hg]; exact (below_size (bl HB.out)) : w.heap.size ≤ gb571)); clear HB; have HB := n0_; have BK571 := n1_; have GW571 := n2_; have GE571 := n3_; clear n0_ n1_ n2_ n3_; clear hb hbox hg; have q22 : ((ji11) : Int) ≤ ((l0.length : Int) : Int) := of_decide_eq_true (by first | (with_reducible assumption) | assumption); obtain ⟨i022, hi022, _, hsz22, _⟩ := info_parts info26; have hroom22 : l0.length ≤ c0 := HC0.out; have hC22 : Kd.C k26 _ A0 l0.length l0 := HR0.out; have hcut22 := cut_to (P := Tryd.prog) 27 26 .i64 Tryd.underlying27 hi022 A0 l0.length c0 (ji11) (of_decide_eq_true (by first | (with_reducible assumption) | assumption)) q22 hroom22; have hr22 := Kd.C_take (m := ((ji11) : Int).toNat) hC22 (by omega); have hy22 : y579.length = ((ji11) : Int).toNat := (by rw [Ny579.out, List.length_take]; omega); rw [← Ny579.out] at hr22; rw [← hy22] at hcut22; have HR582 := Aside0.mk hr22; have HC582 := Aside0.mk (show y579.length ≤ c0 from by omega); clear hr22 hC22 hroom22 hi022 hsz22; have KY22 := Aside0.mk hy22; clear hy22; replace q22 := eq_true q22) | ((with_reducible refine gate_callee (f := 23) rfl ?_); refine goesL_ (some 26) rfl rfl Tryd.func23 (by kernel_rfl) rfl #[.slice A0 y579.length c0] rfl (by (try simp only [List.map_toArray, List.map_cons, List.map_nil]); first | done | rfl | (simp only [List.length_drop, List.length_take]; rfl)) ?_; (with_reducible refine (ih k (by omega) _ _ y579 t583 t584 t585 t586 t587 t588 true _ ?side1 ?side2 ?side3 A14.out).mono ?_); (case side1 => first | (with_reducible exact HG.out) | exact Glob.Globs_below HG.out (by repeat (first | (with_reducible first | exact HB.out | apply below_alloc | apply pw_below_drewN | apply below_drew1 | refine below_set ?_ GE571.out) | exact HB.out))); (case side2 => repeat (first | exact (Kd.C_below HR582.out HB.out) | (with_reducible refine Kd.C_alloc ?_ _) | (with_reducible refine Kd.C_drewN ?_ _) | (with_reducible refine Kd.C_drew ?_))); (case side3 => exact HC582.out); rintro e w23 ⟨rfl, hb⟩; refine ⟨_, rfl, ?_⟩; have n0_ := Aside0.mk (blk_below (pl BK571.out) hb); have n1_ := Aside0.mk (below_step (by repeat (first | (with_reducible first | exact HB.out | apply below_alloc | apply pw_below_drewN | apply below_drew1 | refine below_set ?_ GE571.out) | exact HB.out)) hb); clear BK571; clear HB; have BK571 := n0_; have HB := n1_; clear n0_ n1_; (try clear hb); (try clear hb2); (try clear hk); (try clear hi)) | ((with_reducible refine gate_dst (N := 4) rfl ?_); refine box_event ?hg (N := 4) ?hd (cs := #[.int .i64 0, .int .i64 0, .int .i64 0, .int .i64 0, .string (⟨#[]⟩ : ByteArray), .string (⟨#[]⟩ : ByteArray)]) (t := 26) ?hr ?_; (case hd => rfl); (case hg => rfl); (case hr => first | (go_simp; done) | (go_simp; rfl)); intro gb590 hg w24 hbox hb; have n0_ := Aside0.mk (blk_below (pl BK571.out) hb); have n1_ := Aside0.mk (below_step (by repeat (first | (with_reducible first | exact HB.out | apply below_alloc | apply pw_below_drewN | apply below_drew1 | refine below_set ?_ GE571.out) | exact HB.out)) hb); have n2_ := Aside0.mk (hbox); have n3_ := Aside0.mk ((by rw [hg]; exact (below_size (by repeat (first | (with_reducible first | exact HB.out | apply below_alloc | apply pw_below_drewN | apply below_drew1 | refine below_set ?_ GE571.out) | exact HB.out))) : w.heap.size ≤ gb590)); have n4_ := Aside0.mk ((by rw [hg]; exact (below_size (by repeat (first | (with_reducible first | exact HB.out | apply below_alloc | apply pw_below_drewN | apply below_drew1 | refine below_set ?_ GE571.out) | exact HB.out))) : w.heap.size ≤ gb590)); have n5_ := Aside0.mk ((by rw [hg]; exact Nat.ne_of_lt (blk_lt (pl BK571.out)) : gb571 ≠ gb590)); have n6_ := Aside0.mk ((by rw [hg]; exact Nat.ne_of_gt (blk_lt (pl BK571.out)) : gb590 ≠ gb571)); clear BK571; clear HB; have BK571 := n0_; have HB := n1_; have BK590 := n2_; have GW590 := n3_; have GE590 := n4_; have NB571_590 := n5_; have NB590_571 := n6_; clear n0_ n1_ n2_ n3_ n4_ n5_ n6_; clear hb hbox hg; have hnb25 := NB590_571.out; have hnc25 := NB571_590.out; have hcz26_0 : w24.cell? ⟨gb590, 0, none⟩ = some (.int .i64 0) := (blk_cell BK590.out 0).trans rfl; have hcz26_1 : w24.cell? ⟨gb590, 1, none⟩ = some (.int .i64 0) := (blk_cell BK590.out 1).trans rfl; have hcz26_2 : w24.cell? ⟨gb590, 2, none⟩ = some (.int .i64 0) := (blk_cell BK590.out 2).trans rfl; have hcz26_3 : w24.cell? ⟨gb590, 3, none⟩ = some (.int .i64 0) := (blk_cell BK590.out 3).trans rfl; have hcz26_4 : w24.cell? ⟨gb590, 4, none⟩ = some (.string (⟨#[]⟩ : ByteArray)) := (blk_cell BK590.out 4).trans rfl; have hcz26_5 : w24.cell? ⟨gb590, 5, none⟩ = some (.string (⟨#[]⟩ : ByteArray)) := (blk_cell BK590.out 5).trans rfl; have hfz26_0 := blk_frozen BK590.out 0; have hfz26_1 := blk_frozen BK590.out 1; have hfz26_2 := blk_frozen BK590.out 2; have hfz26_3 := blk_frozen BK590.out 3; have hfz26_4 := blk_frozen BK590.out 4; have hfz26_5 := blk_frozen BK590.out 5) | ((with_reducible refine gate_store (t := 26) (p := 4) rfl ?_); refine store_event (t := 26) (p := 4) (v := ?vo_w27) (w1 := ((((((w24.setCell ⟨gb590, 0, none⟩ (.int .i64 t583)).setCell ⟨gb590, 1, none⟩ (.int .i64 t584)).setCell ⟨gb590, 2, none⟩ (.int .i64 t585)).setCell ⟨gb590, 3, none⟩ (.int .i64 t586)).setCell ⟨gb590, 4, none⟩ (.string t587)).setCell ⟨gb590, 5, none⟩ (.string t588))) ?hg ?ho ?hn ?hr ?_; (case ho => rfl); (case hg => rfl); (case hn => rfl); (case hr => first | (go_simp; done) | (go_simp; rfl)); intro w27 hw; have n0_ : Aside0 (w27.heap[gb571]? = some (.cells #[.int .i64 0, .int .i64 0, .int .i64 0, .int .i64 0, .string (⟨#[]⟩ : ByteArray), .string (⟨#[]⟩ : ByteArray)] 26 (0, 0))) := ⟨(by rw [hw]; exact (by refine pl ?_; refine blk_far ?_ NB571_590.out _; refine pl ?_; refine blk_far ?_ NB571_590.out _; refine pl ?_; refine blk_far ?_ NB571_590.out _; refine pl ?_; refine blk_far ?_ NB571_590.out _; refine pl ?_; refine blk_far ?_ NB571_590.out _; refine pl ?_; refine blk_far ?_ NB571_590.out _; refine pl ?_; exact BK571.out))⟩; have n1_ : Aside0 (w27.heap[gb590]? = some (.cells #[.int .i64 t583, .int .i64 t584, .int .i64 t585, .int .i64 t586, .string t587, .string t588] 26 (0, 0))) := ⟨(by rw [hw]; exact (by refine pl ?_; refine blk_put (cs := #[.int .i64 t583, .int .i64 t584, .int .i64 t585, .int .i64 t586, .string t587, .string (⟨#[]⟩ : ByteArray)]) ?_ 5 _ rfl; refine pl ?_; refine blk_put (cs := #[.int .i64 t583, .int .i64 t584, .int .i64 t585, .int .i64 t586, .string (⟨#[]⟩ : ByteArray), .string (⟨#[]⟩ : ByteArray)]) ?_ 4 _ rfl; refine pl ?_; refine blk_put (cs := #[.int .i64 t583, .int .i64 t584, .int .i64 t585, .int .i64 0, .string (⟨#[]⟩ : ByteArray), .string (⟨#[]⟩ : ByteArray)]) ?_ 3 _ rfl; refine pl ?_; refine blk_put (cs := #[.int .i64 t583, .int .i64 t584, .int .i64 0, .int .i64 0, .string (⟨#[]⟩ : ByteArray), .string (⟨#[]⟩ : ByteArray)]) ?_ 2 _ rfl; refine pl ?_; refine blk_put (cs := #[.int .i64 t583, .int .i64 0, .int .i64 0, .int .i64 0, .string (⟨#[]⟩ : ByteArray), .string (⟨#[]⟩ : ByteArray)]) ?_ 1 _ rfl; refine pl ?_; refine blk_put (cs := #[.int .i64 0, .int .i64 0, .int .i64 0, .int .i64 0, .string (⟨#[]⟩ : ByteArray), .string (⟨#[]⟩ : ByteArray)]) ?_ 0 _ rfl; refine pl ?_; exact BK590.out))⟩; have n2_ : Aside0 (Below w.heap.size w w27) := ⟨(by rw [hw]; exact (by repeat (first | (with_reducible first | exact HB.out | apply below_alloc | apply pw_below_drewN | apply below_drew1 | refine below_set ?_ GE571.out | refine below_set ?_ GE590.out) | exact HB.out)))⟩; clear hw; clear BK571; clear BK590; clear HB; have BK571 := n0_; have BK590 := n1_; have HB := n2_; clear n0_ n1_ n2_; have q28 : ((ji11) : Int) ≤ ((l0.length : Int) : Int) := of_decide_eq_true (by first | (with_reducible assumption) | assumption); obtain ⟨i028, hi028, _, hsz28, _⟩ := info_parts info26; have hroom28 : l0.length ≤ c0 := HC0.out; have hC28 : Kd.C k26 _ A0 l0.length l0 := HR0.out; have q028 : (0 : Int) ≤ ((ji11) : Int) := of_decide_eq_true (by first | (with_reducible assumption) | assumption); have hcut28 := cut_from (P := Tryd.prog) 27 26 .i64 Tryd.underlying27 hi028 6 hsz28 A0 l0.length c0 (ji11) q028 q28; have hr28 := Kd.C_drop (m := ((ji11) : Int).toNat) (c := c0) hC28 (by omega) hroom28; obtain ⟨A28, hA28⟩ : ∃ A1, A1 = (if c0 = ((ji11) : Int).toNat then A0 else (A0 : Option Addr).map (·.add (((ji11) : Int).toNat * 6))) := ⟨_, rfl⟩; obtain ⟨c28, hc28⟩ : ∃ c1, c1 = c0 - ((ji11) : Int).toNat := ⟨_, rfl⟩; have hy28 : y591.length = l0.length - ((ji11) : Int).toNat := (by rw [Ny591.out, List.length_drop] <;> omega); rw [show (l0).drop ((ji11) : Int).toNat = y591 from Ny591.out.symm] at hr28; replace hr28 : Kd.C k26 _ A28 y591.length y591 := (by rw [hA28]; exact hr28); rw [← hy28, ← hA28, ← hc28] at hcut28; have HR594 := Aside0.mk hr28; have HC594 := Aside0.mk (show y591.length ≤ c28 from by rw [hy28, hc28]; exact Nat.sub_le_sub_right hroom28 _); clear hr28 hC28 hroom28 hi028 hsz28 hc28; have KY28 := Aside0.mk hy28; have KA28 := Aside0.mk hA28; clear hy28 hA28; replace q28 := eq_true q28) | ((with_reducible refine gate_callee (f := 23) rfl ?_); refine goesL_ (some 35) rfl rfl Tryd.func23 (by kernel_rfl) rfl #[.slice A28 y591.length c28] rfl (by (try simp only [List.map_toArray, List.map_cons, List.map_nil]); first | done | rfl | (simp only [List.length_drop, List.length_take]; rfl)) ?_; (with_reducible refine (ih k (by omega) _ _ y591 t595 t596 t597 t598 t599 t600 true _ ?side1 ?side2 ?side3 A17.out).mono ?_); (case side1 => first | (with_reducible exact HG.out) | exact Glob.Globs_below HG.out (by repeat (first | (with_reducible first | exact HB.out | apply below_alloc | apply pw_below_drewN | apply below_drew1 | refine below_set ?_ GE571.out | refine below_set ?_ GE590.out) | exact HB.out))); (case side2 => repeat (first | exact (Kd.C_below HR594.out HB.out) | (with_reducible refine Kd.C_alloc ?_ _) | (with_reducible refine Kd.C_drewN ?_ _) | (with_reducible refine Kd.C_drew ?_))); (case side3 => exact HC594.out); rintro e w29 ⟨rfl, hb⟩; refine ⟨_, rfl, ?_⟩; have n0_ := Aside0.mk (blk_below (pl BK571.out) hb); have n1_ := Aside0.mk (blk_below (pl BK590.out) hb); have n2_ := Aside0.mk (below_step (by repeat (first | (with_reducible first | exact HB.out | apply below_alloc | apply pw_below_drewN | apply below_drew1 | refine below_set ?_ GE571.out | refine below_set ?_ GE590.out) | exact HB.out)) hb); clear BK571; clear BK590; clear HB; have BK571 := n0_; have BK590 := n1_; have HB := n2_; clear n0_ n1_ n2_; (try clear hb); (try clear hb2); (try clear hk); (try clear hi)) | ((with_reducible refine gate_dst (N := 6) rfl ?_); refine box_event ?hg (N := 6) ?hd (cs := #[.int .i64 0, .int .i64 0, .int .i64 0, .int .i64 0, .string (⟨#[]⟩ : ByteArray), .string (⟨#[]⟩ : ByteArray)]) (t := 26) ?hr ?_; (case hd => rfl); (case hg => rfl); (case hr => first | (go_simp; done) | (go_simp; rfl)); intro gb602 hg w30 hbox hb; have n0_ := Aside0.mk (blk_below (pl BK571.out) hb); have n1_ := Aside0.mk (blk_below (pl BK590.out) hb); have n2_ := Aside0.mk (below_step (by repeat (first | (with_reducible first | exact HB.out | apply below_alloc | apply pw_below_drewN | apply below_drew1 | refine below_set ?_ GE571.out | refine below_set ?_ GE590.out) | exact HB.out)) hb); have n3_ := Aside0.mk (hbox); have n4_ := Aside0.mk ((by rw [hg]; exact (below_size (by repeat (first | (with_reducible first | exact HB.out | apply below_alloc | apply pw_below_drewN | apply below_drew1 | refine below_set ?_ GE571.out | refine below_set ?_ GE590.out) | exact HB.out))) : w.heap.size ≤ gb602)); have n5_ := Aside0.mk ((by rw [hg]; exact (below_size (by repeat (first | (with_reducible first | exact HB.out | apply below_alloc | apply pw_below_drewN | apply below_drew1 | refine below_set ?_ GE571.out | refine below_set ?_ GE590.out) | exact HB.out))) : w.heap.size ≤ gb602)); have n6_ := Aside0.mk ((by rw [hg]; exact Nat.ne_of_lt (blk_lt (pl BK571.out)) : gb571 ≠ gb602)); have n7_ := Aside0.mk ((by rw [hg]; exact Nat.ne_of_gt (blk_lt (pl BK571.out)) : gb602 ≠ gb571)); have n8_ := Aside0.mk ((by rw [hg]; exact Nat.ne_of_lt (blk_lt (pl BK590.out)) : gb590 ≠ gb602)); have n9_ := Aside0.mk ((by rw [hg]; exact Nat.ne_of_gt (blk_lt (pl BK590.out)) : gb602 ≠ gb590)); clear BK571; clear BK590; clear HB; have BK571 := n0_; have BK590 := n1_; have HB := n2_; have BK602 := n3_; have GW602 := n4_; have GE602 := n5_; have NB571_602 := n6_; have NB602_571 := n7_; have NB590_602 := n8_; have NB602_590 := n9_; clear n0_ n1_ n2_ n3_ n4_ n5_ n6_ n7_ n8_ n9_; clear hb hbox hg; have hnb31 := NB602_571.out; have hnc31 := NB571_602.out; have hnb32 := NB602_590.out; have hnc32 := NB590_602.out; have hcz33_0 : w30.cell? ⟨gb602, 0, none⟩ = some (.int .i64 0) := (blk_cell BK602.out 0).trans rfl; have hcz33_1 : w30.cell? ⟨gb602, 1, none⟩ = some (.int .i64 0) := (blk_cell BK602.out 1).trans rfl; have hcz33_2 : w30.cell? ⟨gb602, 2, none⟩ = some (.int .i64 0) := (blk_cell BK602.out 2).trans rfl; have hcz33_3 : w30.cell? ⟨gb602, 3, none⟩ = some (.int .i64 0) := (blk_cell BK602.out 3).trans rfl; have hcz33_4 : w30.cell? ⟨gb602, 4, none⟩ = some (.string (⟨#[]⟩ : ByteArray)) := (blk_cell BK602.out 4).trans rfl; have hcz33_5 : w30.cell? ⟨gb602, 5, none⟩ = some (.string (⟨#[]⟩ : ByteArray)) := (blk_cell BK602.out 5).trans rfl; have hfz33_0 := blk_frozen BK602.out 0; have hfz33_1 := blk_frozen BK602.out 1; have hfz33_2 := blk_frozen BK602.out 2; have hfz33_3 := blk_frozen BK602.out 3; have hfz33_4 := blk_frozen BK602.out 4; have hfz33_5 := blk_frozen BK602.out 5; have hcz34_0 : w30.cell? ⟨gb590, 0, none⟩ = some (.int .i64 t583) := (blk_cell BK590.out 0).trans rfl; have hcz34_1 : w30.cell? ⟨gb590, 1, none⟩ = some (.int .i64 t584) := (blk_cell BK590.out 1).trans rfl; have hcz34_2 : w30.cell? ⟨gb590, 2, none⟩ = some (.int .i64 t585) := (blk_cell BK590.out 2).trans rfl; have hcz34_3 : w30.cell? ⟨gb590, 3, none⟩ = some (.int .i64 t586) := (blk_cell BK590.out 3).trans rfl; have hcz34_4 : w30.cell? ⟨gb590, 4, none⟩ = some (.string t587) := (blk_cell BK590.out 4).trans rfl; have hcz34_5 : w30.cell? ⟨gb590, 5, none⟩ = some (.string t588) := (blk_cell BK590.out 5).trans rfl; have hfz34_0 := blk_frozen BK590.out 0; have hfz34_1 := blk_frozen BK590.out 1; have hfz34_2 := blk_frozen BK590.out 2; have hfz34_3 := blk_frozen BK590.out 3; have hfz34_4 := blk_frozen BK590.out 4; have hfz34_5 := blk_frozen BK590.out 5) | ((with_reducible refine gate_callee (f := 17) rfl ?_); refine goesL_ (some 41) rfl rfl Tryd.func17 (by kernel_rfl) rfl #[.agg #[.int .i64 t583, .int .i64 t584, .int .i64 t585, .int .i64 t586, .string t587, .string t588], .agg #[.int .i64 t595, .int .i64 t596, .int .i64 t597, .int .i64 t598, .string t599, .string t600]] rfl (by (try simp only [List.map_toArray, List.map_cons, List.map_nil]); first | done | rfl | (simp only [List.length_drop, List.length_take]; rfl)) ?_; (with_reducible refine (weld_Join.calls k t583 t584 t585 t586 t587 t588 t595 t596 t597 t598 t599 t600 t603 t604 t605 t606 t607 t608 t609 _ ?side1 A18.out).mono ?_); (case side1 => first | (with_reducible exact HG.out) | exact Glob.Globs_below HG.out (by repeat (first | (with_reducible first | exact HB.out | apply below_alloc | apply pw_below_drewN | apply below_drew1 | refine below_set ?_ GE571.out | refine below_set ?_ GE590.out | refine below_set ?_ GE602.out) | exact HB.out))); rintro e w35 ⟨rfl, hb⟩; refine ⟨_, rfl, ?_⟩; have n0_ := Aside0.mk (blk_below (g := gb571) (o := .cells #[.int .i64 0, .int .i64 0, .int .i64 0, .int .i64 0, .string (⟨#[]⟩ : ByteArray), .string (⟨#[]⟩ : ByteArray)] 26 (0, 0)) (by refine pl ?_; refine blk_far ?_ NB571_602.out _; refine pl ?_; refine blk_far ?_ NB571_602.out _; refine pl ?_; refine blk_far ?_ NB571_602.out _; refine pl ?_; refine blk_far ?_ NB571_602.out _; refine pl ?_; refine blk_far ?_ NB571_602.out _; refine pl ?_; refine blk_far ?_ NB571_602.out _; refine pl ?_; exact BK571.out) hb); have n1_ := Aside0.mk (blk_below (g := gb590) (o := .cells #[.int .i64 t583, .int .i64 t584, .int .i64 t585, .int .i64 t586, .string t587, .string t588] 26 (0, 0)) (by refine pl ?_; refine blk_far ?_ NB590_602.out _; refine pl ?_; refine blk_far ?_ NB590_602.out _; refine pl ?_; refine blk_far ?_ NB590_602.out _; refine pl ?_; refine blk_far ?_ NB590_602.out _; refine pl ?_; refine blk_far ?_ NB590_602.out _; refine pl ?_; refine blk_far ?_ NB590_602.out _; refine pl ?_; exact BK590.out) hb); have n2_ := Aside0.mk (blk_below (g := gb602) (o := .cells #[.int .i64 t595, .int .i64 t596, .int .i64 t597, .int .i64 t598, .string t599, .string t600] 26 (0, 0)) (by refine pl ?_; refine blk_put (cs := #[.int .i64 t595, .int .i64 t596, .int .i64 t597, .int .i64 t598, .string t599, .string (⟨#[]⟩ : ByteArray)]) ?_ 5 _ rfl; refine pl ?_; refine blk_put (cs := #[.int .i64 t595, .int .i64 t596, .int .i64 t597, .int .i64 t598, .string (⟨#[]⟩ : ByteArray), .string (⟨#[]⟩ : ByteArray)]) ?_ 4 _ rfl; refine pl ?_; refine blk_put (cs := #[.int .i64 t595, .int .i64 t596, .int .i64 t597, .int .i64 0, .string (⟨#[]⟩ : ByteArray), .string (⟨#[]⟩ : ByteArray)]) ?_ 3 _ rfl; refine pl ?_; refine blk_put (cs := #[.int .i64 t595, .int .i64 t596, .int .i64 0, .int .i64 0, .string (⟨#[]⟩ : ByteArray), .string (⟨#[]⟩ : ByteArray)]) ?_ 2 _ rfl; refine pl ?_; refine blk_put (cs := #[.int .i64 t595, .int .i64 0, .int .i64 0, .int .i64 0, .string (⟨#[]⟩ : ByteArray), .string (⟨#[]⟩ : ByteArray)]) ?_ 1 _ rfl; refine pl ?_; refine blk_put (cs := #[.int .i64 0, .int .i64 0, .int .i64 0, .int .i64 0, .string (⟨#[]⟩ : ByteArray), .string (⟨#[]⟩ : ByteArray)]) ?_ 0 _ rfl; refine pl ?_; exact BK602.out) hb); have n3_ := Aside0.mk (below_step (by repeat (first | (with_reducible first | exact HB.out | apply below_alloc | apply pw_below_drewN | apply below_drew1 | refine below_set ?_ GE571.out | refine below_set ?_ GE590.out | refine below_set ?_ GE602.out) | exact HB.out)) hb); clear BK571; clear BK590; clear BK602; clear HB; have BK571 := n0_; have BK590 := n1_; have BK602 := n2_; have HB := n3_; clear n0_ n1_ n2_ n3_; (try clear hb); (try clear hb2); (try clear hk); (try clear hi)) | ((with_reducible refine gate_dst (N := 8) rfl ?_); refine box_event ?hg (N := 8) ?hd (cs := #[.int .i64 0, .int .i64 0, .int .i64 0, .int .i64 0, .string (⟨#[]⟩ : ByteArray), .string (⟨#[]⟩ : ByteArray)]) (t := 26) ?hr ?_; (case hd => rfl); (case hg => rfl); (case hr => first | (go_simp; done) | (go_simp; rfl)); intro gb610 hg w36 hbox hb; have n0_ := Aside0.mk (blk_below (pl BK571.out) hb); have n1_ := Aside0.mk (blk_below (pl BK590.out) hb); have n2_ := Aside0.mk (blk_below (pl BK602.out) hb); have n3_ := Aside0.mk (below_step (by repeat (first | (with_reducible first | exact HB.out | apply below_alloc | apply pw_below_drewN | apply below_drew1 | refine below_set ?_ GE571.out | refine below_set ?_ GE590.out | refine below_set ?_ GE602.out) | exact HB.out)) hb); have n4_ := Aside0.mk (hbox); have n5_ := Aside0.mk ((by rw [hg]; exact (below_size (by repeat (first | (with_reducible first | exact HB.out | apply below_alloc | apply pw_below_drewN | apply below_drew1 | refine below_set ?_ GE571.out | refine below_set ?_ GE590.out | refine below_set ?_ GE602.out) | exact HB.out))) : w.heap.size ≤ gb610)); have n6_ := Aside0.mk ((by rw [hg]; exact (below_size (by repeat (first | (with_reducible first | exact HB.out | apply below_alloc | apply pw_below_drewN | apply below_drew1 | refine below_set ?_ GE571.out | refine below_set ?_ GE590.out | refine below_set ?_ GE602.out) | exact HB.out))) : w.heap.size ≤ gb610)); have n7_ := Aside0.mk ((by rw [hg]; exact Nat.ne_of_lt (blk_lt (pl BK571.out)) : gb571 ≠ gb610)); have n8_ := Aside0.mk ((by rw [hg]; exact Nat.ne_of_gt (blk_lt (pl BK571.out)) : gb610 ≠ gb571)); have n9_ := Aside0.mk ((by rw [hg]; exact Nat.ne_of_lt (blk_lt (pl BK590.out)) : gb590 ≠ gb610)); have n10_ := Aside0.mk ((by rw [hg]; exact Nat.ne_of_gt (blk_lt (pl BK590.out)) : gb610 ≠ gb590)); have n11_ := Aside0.mk ((by rw [hg]; exact Nat.ne_of_lt (blk_lt (pl BK602.out)) : gb602 ≠ gb610)); have n12_ := Aside0.mk ((by rw [hg]; exact Nat.ne_of_gt (blk_lt (pl BK602.out)) : gb610 ≠ gb602)); clear BK571; clear BK590; clear BK602; clear HB; have BK571 := n0_; have BK590 := n1_; have BK602 := n2_; have HB := n3_; have BK610 := n4_; have GW610 := n5_; have GE610 := n6_; have NB571_610 := n7_; have NB610_571 := n8_; have NB590_610 := n9_; have NB610_590 := n10_; have NB602_610 := n11_; have NB610_602 := n12_; clear n0_ n1_ n2_ n3_ n4_ n5_ n6_ n7_ n8_ n9_ n10_ n11_ n12_; clear hb hbox hg; have hnb37 := NB610_571.out; have hnc37 := NB571_610.out; have hnb38 := NB610_590.out; have hnc38 := NB590_610.out; have hnb39 := NB610_602.out; have hnc39 := NB602_610.out; have hcz40_0 : w36.cell? ⟨gb610, 0, none⟩ = some (.int .i64 0) := (blk_cell BK610.out 0).trans rfl; have hcz40_1 : w36.cell? ⟨gb610, 1, none⟩ = some (.int .i64 0) := (blk_cell BK610.out 1).trans rfl; have hcz40_2 : w36.cell? ⟨gb610, 2, none⟩ = some (.int .i64 0) := (blk_cell BK610.out 2).trans rfl; have hcz40_3 : w36.cell? ⟨gb610, 3, none⟩ = some (.int .i64 0) := (blk_cell BK610.out 3).trans rfl; have hcz40_4 : w36.cell? ⟨gb610, 4, none⟩ = some (.string (⟨#[]⟩ : ByteArray)) := (blk_cell BK610.out 4).trans rfl; have hcz40_5 : w36.cell? ⟨gb610, 5, none⟩ = some (.string (⟨#[]⟩ : ByteArray)) := (blk_cell BK610.out 5).trans rfl; have hfz40_0 := blk_frozen BK610.out 0; have hfz40_1 := blk_frozen BK610.out 1; have hfz40_2 := blk_frozen BK610.out 2; have hfz40_3 := blk_frozen BK610.out 3; have hfz40_4 := blk_frozen BK610.out 4; have hfz40_5 := blk_frozen BK610.out 5; have hcz41_0 : w36.cell? ⟨gb571, 0, none⟩ = some (.int .i64 0) := (blk_cell BK571.out 0).trans rfl; have hcz41_1 : w36.cell? ⟨gb571, 1, none⟩ = some (.int .i64 0) := (blk_cell BK571.out 1).trans rfl; have hcz41_2 : w36.cell? ⟨gb571, 2, none⟩ = some (.int .i64 0) := (blk_cell BK571.out 2).trans rfl; have hcz41_3 : w36.cell? ⟨gb571, 3, none⟩ = some (.int .i64 0) := (blk_cell BK571.out 3).trans rfl; have hcz41_4 : w36.cell? ⟨gb571, 4, none⟩ = some (.string (⟨#[]⟩ : ByteArray)) := (blk_cell BK571.out 4).trans rfl; have hcz41_5 : w36.cell? ⟨gb571, 5, none⟩ = some (.string (⟨#[]⟩ : ByteArray)) := (blk_cell BK571.out 5).trans rfl; have hfz41_0 := blk_frozen BK571.out 0; have hfz41_1 := blk_frozen BK571.out 1; have hfz41_2 := blk_frozen BK571.out 2; have hfz41_3 := blk_frozen BK571.out 3; have hfz41_4 := blk_frozen BK571.out 4; have hfz41_5 := blk_frozen BK571.out 5))
       refine bodyPost_ret (results_ct rfl _ _ gb571 26 #[.int .i64 t603, .int .i64 t604, .int .i64 t605, .int .i64 t606, .string t607, .string t608] (0, 0) _ rfl (by refine pl ?_; refine blk_put (cs := #[.int .i64 t603, .int .i64 t604, .int .i64 t605, .int .i64 t606, .string t607, .string (⟨#[]⟩ : ByteArray)]) ?_ 5 _ rfl; refine pl ?_; refine blk_put (cs := #[.int .i64 t603, .int .i64 t604, .int .i64 t605, .int .i64 t606, .string (⟨#[]⟩ : ByteArray), .string (⟨#[]⟩ : ByteArray)]) ?_ 4 _ rfl; refine pl ?_; refine blk_put (cs := #[.int .i64 t603, .int .i64 t604, .int .i64 t605, .int .i64 0, .string (⟨#[]⟩ : ByteArray), .string (⟨#[]⟩ : ByteArray)]) ?_ 3 _ rfl; refine pl ?_; refine blk_put (cs := #[.int .i64 t603, .int .i64 t604, .int .i64 0, .int .i64 0, .string (⟨#[]⟩ : ByteArray), .string (⟨#[]⟩ : ByteArray)]) ?_ 2 _ rfl; refine pl ?_; refine blk_put (cs := #[.int .i64 t603, .int .i64 0, .int .i64 0, .int .i64 0, .string (⟨#[]⟩ : ByteArray), .string (⟨#[]⟩ : ByteArray)]) ?_ 1 _ rfl; refine pl ?_; refine blk_put (cs := #[.int .i64 0, .int .i64 0, .int .i64 0, .int .i64 0, .string (⟨#[]⟩ : ByteArray), .string (⟨#[]⟩ : ByteArray)]) ?_ 0 _ rfl; refine pl ?_; refine blk_far ?_ NB571_610.out _; refine pl ?_; refine blk_far ?_ NB571_610.out _; refine pl ?_; refine blk_far ?_ NB571_610.out _; refine pl ?_; refine blk_far ?_ NB571_610.out _; refine pl ?_; refine blk_far ?_ NB571_610.out _; refine pl ?_; refine blk_far ?_ NB571_610.out _; refine pl ?_; exact BK571.out) Tryd.underlying26 rfl (by kernel_rfl)) rfl ?_
       exact ⟨by first | rfl | (simp [errW_none, errW_some] <;> rfl) | (simp only [← hji11]; first | rfl | (simp [errW_none, errW_some] <;> rfl)) | (simp [*, errW_none, errW_some] <;> rfl), by repeat (first | (with_reducible first | exact HB.out | apply below_alloc | apply pw_below_drewN | apply below_drew1 | refine below_set ?_ GE571.out | refine below_set ?_ GE590.out | refine below_set ?_ GE602.out | refine below_set ?_ GE610.out) | exact HB.out)⟩
      ·replace c20 := Bool.eq_false_iff.mpr c20
       subst c20
       have H1 : (some (t603, t604, t605, t606, t607, t608, false)) = some (r1, r2, r3, r4, r5, r6, r7) := by rw [if_neg (show ¬ (false = true) by decide)] at H; exact H
       clear H
       have H := H1
       clear H1
       simp only [Option.some.injEq, Prod.mk.injEq] at H
       obtain ⟨rfl, rfl, rfl, rfl, rfl, rfl, rfl⟩ := H
       go_enter Tryd.func23, Tryd.ntmps23
       go_wp2_with (first | ((with_reducible refine gate_dst (N := 2) rfl ?_); refine box_event ?hg (N := 2) ?hd (cs := #[.int .i64 0, .int .i64 0, .int .i64 0, .int .i64 0, .string (⟨#[]⟩ : ByteArray), .string (⟨#[]⟩ : ByteArray)]) (t := 26) ?hr ?_; (case hd => rfl); (case hg => rfl); (case hr => first | (go_simp; done) | (go_simp; rfl)); intro gb571 hg w42 hbox hb; have n0_ := Aside0.mk (below_step (bl HB.out) hb); have n1_ := Aside0.mk (hbox); have n2_ := Aside0.mk ((by rw [hg]; exact (below_size (bl HB.out)) : w.heap.size ≤ gb571)); have n3_ := Aside0.mk ((by rw [hg]; exact (below_size (bl HB.out)) : w.heap.size ≤ gb571)); clear HB; have HB := n0_; have BK571 := n1_; have GW571 := n2_; have GE571 := n3_; clear n0_ n1_ n2_ n3_; clear hb hbox hg; have q43 : ((ji11) : Int) ≤ ((l0.length : Int) : Int) := of_decide_eq_true (by first | (with_reducible assumption) | assumption); obtain ⟨i043, hi043, _, hsz43, _⟩ := info_parts info26; have hroom43 : l0.length ≤ c0 := HC0.out; have hC43 : Kd.C k26 _ A0 l0.length l0 := HR0.out; have hcut43 := cut_to (P := Tryd.prog) 27 26 .i64 Tryd.underlying27 hi043 A0 l0.length c0 (ji11) (of_decide_eq_true (by first | (with_reducible assumption) | assumption)) q43 hroom43; have hr43 := Kd.C_take (m := ((ji11) : Int).toNat) hC43 (by omega); have hy43 : y579.length = ((ji11) : Int).toNat := (by rw [Ny579.out, List.length_take]; omega); rw [← Ny579.out] at hr43; rw [← hy43] at hcut43; have HR582 := Aside0.mk hr43; have HC582 := Aside0.mk (show y579.length ≤ c0 from by omega); clear hr43 hC43 hroom43 hi043 hsz43; have KY43 := Aside0.mk hy43; clear hy43; replace q43 := eq_true q43) | ((with_reducible refine gate_callee (f := 23) rfl ?_); refine goesL_ (some 26) rfl rfl Tryd.func23 (by kernel_rfl) rfl #[.slice A0 y579.length c0] rfl (by (try simp only [List.map_toArray, List.map_cons, List.map_nil]); first | done | rfl | (simp only [List.length_drop, List.length_take]; rfl)) ?_; (with_reducible refine (ih k (by omega) _ _ y579 t583 t584 t585 t586 t587 t588 true _ ?side1 ?side2 ?side3 A14.out).mono ?_); (case side1 => first | (with_reducible exact HG.out) | exact Glob.Globs_below HG.out (by repeat (first | (with_reducible first | exact HB.out | apply below_alloc | apply pw_below_drewN | apply below_drew1 | refine below_set ?_ GE571.out) | exact HB.out))); (case side2 => repeat (first | exact (Kd.C_below HR582.out HB.out) | (with_reducible refine Kd.C_alloc ?_ _) | (with_reducible refine Kd.C_drewN ?_ _) | (with_reducible refine Kd.C_drew ?_))); (case side3 => exact HC582.out); rintro e w44 ⟨rfl, hb⟩; refine ⟨_, rfl, ?_⟩; have n0_ := Aside0.mk (blk_below (pl BK571.out) hb); have n1_ := Aside0.mk (below_step (by repeat (first | (with_reducible first | exact HB.out | apply below_alloc | apply pw_below_drewN | apply below_drew1 | refine below_set ?_ GE571.out) | exact HB.out)) hb); clear BK571; clear HB; have BK571 := n0_; have HB := n1_; clear n0_ n1_; (try clear hb); (try clear hb2); (try clear hk); (try clear hi)) | ((with_reducible refine gate_dst (N := 4) rfl ?_); refine box_event ?hg (N := 4) ?hd (cs := #[.int .i64 0, .int .i64 0, .int .i64 0, .int .i64 0, .string (⟨#[]⟩ : ByteArray), .string (⟨#[]⟩ : ByteArray)]) (t := 26) ?hr ?_; (case hd => rfl); (case hg => rfl); (case hr => first | (go_simp; done) | (go_simp; rfl)); intro gb590 hg w45 hbox hb; have n0_ := Aside0.mk (blk_below (pl BK571.out) hb); have n1_ := Aside0.mk (below_step (by repeat (first | (with_reducible first | exact HB.out | apply below_alloc | apply pw_below_drewN | apply below_drew1 | refine below_set ?_ GE571.out) | exact HB.out)) hb); have n2_ := Aside0.mk (hbox); have n3_ := Aside0.mk ((by rw [hg]; exact (below_size (by repeat (first | (with_reducible first | exact HB.out | apply below_alloc | apply pw_below_drewN | apply below_drew1 | refine below_set ?_ GE571.out) | exact HB.out))) : w.heap.size ≤ gb590)); have n4_ := Aside0.mk ((by rw [hg]; exact (below_size (by repeat (first | (with_reducible first | exact HB.out | apply below_alloc | apply pw_below_drewN | apply below_drew1 | refine below_set ?_ GE571.out) | exact HB.out))) : w.heap.size ≤ gb590)); have n5_ := Aside0.mk ((by rw [hg]; exact Nat.ne_of_lt (blk_lt (pl BK571.out)) : gb571 ≠ gb590)); have n6_ := Aside0.mk ((by rw [hg]; exact Nat.ne_of_gt (blk_lt (pl BK571.out)) : gb590 ≠ gb571)); clear BK571; clear HB; have BK571 := n0_; have HB := n1_; have BK590 := n2_; have GW590 := n3_; have GE590 := n4_; have NB571_590 := n5_; have NB590_571 := n6_; clear n0_ n1_ n2_ n3_ n4_ n5_ n6_; clear hb hbox hg; have hnb46 := NB590_571.out; have hnc46 := NB571_590.out; have hcz47_0 : w45.cell? ⟨gb590, 0, none⟩ = some (.int .i64 0) := (blk_cell BK590.out 0).trans rfl; have hcz47_1 : w45.cell? ⟨gb590, 1, none⟩ = some (.int .i64 0) := (blk_cell BK590.out 1).trans rfl; have hcz47_2 : w45.cell? ⟨gb590, 2, none⟩ = some (.int .i64 0) := (blk_cell BK590.out 2).trans rfl; have hcz47_3 : w45.cell? ⟨gb590, 3, none⟩ = some (.int .i64 0) := (blk_cell BK590.out 3).trans rfl; have hcz47_4 : w45.cell? ⟨gb590, 4, none⟩ = some (.string (⟨#[]⟩ : ByteArray)) := (blk_cell BK590.out 4).trans rfl; have hcz47_5 : w45.cell? ⟨gb590, 5, none⟩ = some (.string (⟨#[]⟩ : ByteArray)) := (blk_cell BK590.out 5).trans rfl; have hfz47_0 := blk_frozen BK590.out 0; have hfz47_1 := blk_frozen BK590.out 1; have hfz47_2 := blk_frozen BK590.out 2; have hfz47_3 := blk_frozen BK590.out 3; have hfz47_4 := blk_frozen BK590.out 4; have hfz47_5 := blk_frozen BK590.out 5) | ((with_reducible refine gate_store (t := 26) (p := 4) rfl ?_); refine store_event (t := 26) (p := 4) (v := ?vo_w48) (w1 := ((((((w45.setCell ⟨gb590, 0, none⟩ (.int .i64 t583)).setCell ⟨gb590, 1, none⟩ (.int .i64 t584)).setCell ⟨gb590, 2, none⟩ (.int .i64 t585)).setCell ⟨gb590, 3, none⟩ (.int .i64 t586)).setCell ⟨gb590, 4, none⟩ (.string t587)).setCell ⟨gb590, 5, none⟩ (.string t588))) ?hg ?ho ?hn ?hr ?_; (case ho => rfl); (case hg => rfl); (case hn => rfl); (case hr => first | (go_simp; done) | (go_simp; rfl)); intro w48 hw; have n0_ : Aside0 (w48.heap[gb571]? = some (.cells #[.int .i64 0, .int .i64 0, .int .i64 0, .int .i64 0, .string (⟨#[]⟩ : ByteArray), .string (⟨#[]⟩ : ByteArray)] 26 (0, 0))) := ⟨(by rw [hw]; exact (by refine pl ?_; refine blk_far ?_ NB571_590.out _; refine pl ?_; refine blk_far ?_ NB571_590.out _; refine pl ?_; refine blk_far ?_ NB571_590.out _; refine pl ?_; refine blk_far ?_ NB571_590.out _; refine pl ?_; refine blk_far ?_ NB571_590.out _; refine pl ?_; refine blk_far ?_ NB571_590.out _; refine pl ?_; exact BK571.out))⟩; have n1_ : Aside0 (w48.heap[gb590]? = some (.cells #[.int .i64 t583, .int .i64 t584, .int .i64 t585, .int .i64 t586, .string t587, .string t588] 26 (0, 0))) := ⟨(by rw [hw]; exact (by refine pl ?_; refine blk_put (cs := #[.int .i64 t583, .int .i64 t584, .int .i64 t585, .int .i64 t586, .string t587, .string (⟨#[]⟩ : ByteArray)]) ?_ 5 _ rfl; refine pl ?_; refine blk_put (cs := #[.int .i64 t583, .int .i64 t584, .int .i64 t585, .int .i64 t586, .string (⟨#[]⟩ : ByteArray), .string (⟨#[]⟩ : ByteArray)]) ?_ 4 _ rfl; refine pl ?_; refine blk_put (cs := #[.int .i64 t583, .int .i64 t584, .int .i64 t585, .int .i64 0, .string (⟨#[]⟩ : ByteArray), .string (⟨#[]⟩ : ByteArray)]) ?_ 3 _ rfl; refine pl ?_; refine blk_put (cs := #[.int .i64 t583, .int .i64 t584, .int .i64 0, .int .i64 0, .string (⟨#[]⟩ : ByteArray), .string (⟨#[]⟩ : ByteArray)]) ?_ 2 _ rfl; refine pl ?_; refine blk_put (cs := #[.int .i64 t583, .int .i64 0, .int .i64 0, .int .i64 0, .string (⟨#[]⟩ : ByteArray), .string (⟨#[]⟩ : ByteArray)]) ?_ 1 _ rfl; refine pl ?_; refine blk_put (cs := #[.int .i64 0, .int .i64 0, .int .i64 0, .int .i64 0, .string (⟨#[]⟩ : ByteArray), .string (⟨#[]⟩ : ByteArray)]) ?_ 0 _ rfl; refine pl ?_; exact BK590.out))⟩; have n2_ : Aside0 (Below w.heap.size w w48) := ⟨(by rw [hw]; exact (by repeat (first | (with_reducible first | exact HB.out | apply below_alloc | apply pw_below_drewN | apply below_drew1 | refine below_set ?_ GE571.out | refine below_set ?_ GE590.out) | exact HB.out)))⟩; clear hw; clear BK571; clear BK590; clear HB; have BK571 := n0_; have BK590 := n1_; have HB := n2_; clear n0_ n1_ n2_; have q49 : ((ji11) : Int) ≤ ((l0.length : Int) : Int) := of_decide_eq_true (by first | (with_reducible assumption) | assumption); obtain ⟨i049, hi049, _, hsz49, _⟩ := info_parts info26; have hroom49 : l0.length ≤ c0 := HC0.out; have hC49 : Kd.C k26 _ A0 l0.length l0 := HR0.out; have q049 : (0 : Int) ≤ ((ji11) : Int) := of_decide_eq_true (by first | (with_reducible assumption) | assumption); have hcut49 := cut_from (P := Tryd.prog) 27 26 .i64 Tryd.underlying27 hi049 6 hsz49 A0 l0.length c0 (ji11) q049 q49; have hr49 := Kd.C_drop (m := ((ji11) : Int).toNat) (c := c0) hC49 (by omega) hroom49; obtain ⟨A49, hA49⟩ : ∃ A1, A1 = (if c0 = ((ji11) : Int).toNat then A0 else (A0 : Option Addr).map (·.add (((ji11) : Int).toNat * 6))) := ⟨_, rfl⟩; obtain ⟨c49, hc49⟩ : ∃ c1, c1 = c0 - ((ji11) : Int).toNat := ⟨_, rfl⟩; have hy49 : y591.length = l0.length - ((ji11) : Int).toNat := (by rw [Ny591.out, List.length_drop] <;> omega); rw [show (l0).drop ((ji11) : Int).toNat = y591 from Ny591.out.symm] at hr49; replace hr49 : Kd.C k26 _ A49 y591.length y591 := (by rw [hA49]; exact hr49); rw [← hy49, ← hA49, ← hc49] at hcut49; have HR594 := Aside0.mk hr49; have HC594 := Aside0.mk (show y591.length ≤ c49 from by rw [hy49, hc49]; exact Nat.sub_le_sub_right hroom49 _); clear hr49 hC49 hroom49 hi049 hsz49 hc49; have KY49 := Aside0.mk hy49; have KA49 := Aside0.mk hA49; clear hy49 hA49; replace q49 := eq_true q49) | ((with_reducible refine gate_callee (f := 23) rfl ?_); refine goesL_ (some 35) rfl rfl Tryd.func23 (by kernel_rfl) rfl #[.slice A49 y591.length c49] rfl (by (try simp only [List.map_toArray, List.map_cons, List.map_nil]); first | done | rfl | (simp only [List.length_drop, List.length_take]; rfl)) ?_; (with_reducible refine (ih k (by omega) _ _ y591 t595 t596 t597 t598 t599 t600 false _ ?side1 ?side2 ?side3 A17.out).mono ?_); (case side1 => first | (with_reducible exact HG.out) | exact Glob.Globs_below HG.out (by repeat (first | (with_reducible first | exact HB.out | apply below_alloc | apply pw_below_drewN | apply below_drew1 | refine below_set ?_ GE571.out | refine below_set ?_ GE590.out) | exact HB.out))); (case side2 => repeat (first | exact (Kd.C_below HR594.out HB.out) | (with_reducible refine Kd.C_alloc ?_ _) | (with_reducible refine Kd.C_drewN ?_ _) | (with_reducible refine Kd.C_drew ?_))); (case side3 => exact HC594.out); rintro e w50 ⟨rfl, hb⟩; refine ⟨_, rfl, ?_⟩; have n0_ := Aside0.mk (blk_below (pl BK571.out) hb); have n1_ := Aside0.mk (blk_below (pl BK590.out) hb); have n2_ := Aside0.mk (below_step (by repeat (first | (with_reducible first | exact HB.out | apply below_alloc | apply pw_below_drewN | apply below_drew1 | refine below_set ?_ GE571.out | refine below_set ?_ GE590.out) | exact HB.out)) hb); clear BK571; clear BK590; clear HB; have BK571 := n0_; have BK590 := n1_; have HB := n2_; clear n0_ n1_ n2_; (try clear hb); (try clear hb2); (try clear hk); (try clear hi)) | ((with_reducible refine gate_dst (N := 6) rfl ?_); refine box_event ?hg (N := 6) ?hd (cs := #[.int .i64 0, .int .i64 0, .int .i64 0, .int .i64 0, .string (⟨#[]⟩ : ByteArray), .string (⟨#[]⟩ : ByteArray)]) (t := 26) ?hr ?_; (case hd => rfl); (case hg => rfl); (case hr => first | (go_simp; done) | (go_simp; rfl)); intro gb602 hg w51 hbox hb; have n0_ := Aside0.mk (blk_below (pl BK571.out) hb); have n1_ := Aside0.mk (blk_below (pl BK590.out) hb); have n2_ := Aside0.mk (below_step (by repeat (first | (with_reducible first | exact HB.out | apply below_alloc | apply pw_below_drewN | apply below_drew1 | refine below_set ?_ GE571.out | refine below_set ?_ GE590.out) | exact HB.out)) hb); have n3_ := Aside0.mk (hbox); have n4_ := Aside0.mk ((by rw [hg]; exact (below_size (by repeat (first | (with_reducible first | exact HB.out | apply below_alloc | apply pw_below_drewN | apply below_drew1 | refine below_set ?_ GE571.out | refine below_set ?_ GE590.out) | exact HB.out))) : w.heap.size ≤ gb602)); have n5_ := Aside0.mk ((by rw [hg]; exact (below_size (by repeat (first | (with_reducible first | exact HB.out | apply below_alloc | apply pw_below_drewN | apply below_drew1 | refine below_set ?_ GE571.out | refine below_set ?_ GE590.out) | exact HB.out))) : w.heap.size ≤ gb602)); have n6_ := Aside0.mk ((by rw [hg]; exact Nat.ne_of_lt (blk_lt (pl BK571.out)) : gb571 ≠ gb602)); have n7_ := Aside0.mk ((by rw [hg]; exact Nat.ne_of_gt (blk_lt (pl BK571.out)) : gb602 ≠ gb571)); have n8_ := Aside0.mk ((by rw [hg]; exact Nat.ne_of_lt (blk_lt (pl BK590.out)) : gb590 ≠ gb602)); have n9_ := Aside0.mk ((by rw [hg]; exact Nat.ne_of_gt (blk_lt (pl BK590.out)) : gb602 ≠ gb590)); clear BK571; clear BK590; clear HB; have BK571 := n0_; have BK590 := n1_; have HB := n2_; have BK602 := n3_; have GW602 := n4_; have GE602 := n5_; have NB571_602 := n6_; have NB602_571 := n7_; have NB590_602 := n8_; have NB602_590 := n9_; clear n0_ n1_ n2_ n3_ n4_ n5_ n6_ n7_ n8_ n9_; clear hb hbox hg; have hnb52 := NB602_571.out; have hnc52 := NB571_602.out; have hnb53 := NB602_590.out; have hnc53 := NB590_602.out; have hcz54_0 : w51.cell? ⟨gb602, 0, none⟩ = some (.int .i64 0) := (blk_cell BK602.out 0).trans rfl; have hcz54_1 : w51.cell? ⟨gb602, 1, none⟩ = some (.int .i64 0) := (blk_cell BK602.out 1).trans rfl; have hcz54_2 : w51.cell? ⟨gb602, 2, none⟩ = some (.int .i64 0) := (blk_cell BK602.out 2).trans rfl; have hcz54_3 : w51.cell? ⟨gb602, 3, none⟩ = some (.int .i64 0) := (blk_cell BK602.out 3).trans rfl; have hcz54_4 : w51.cell? ⟨gb602, 4, none⟩ = some (.string (⟨#[]⟩ : ByteArray)) := (blk_cell BK602.out 4).trans rfl; have hcz54_5 : w51.cell? ⟨gb602, 5, none⟩ = some (.string (⟨#[]⟩ : ByteArray)) := (blk_cell BK602.out 5).trans rfl; have hfz54_0 := blk_frozen BK602.out 0; have hfz54_1 := blk_frozen BK602.out 1; have hfz54_2 := blk_frozen BK602.out 2; have hfz54_3 := blk_frozen BK602.out 3; have hfz54_4 := blk_frozen BK602.out 4; have hfz54_5 := blk_frozen BK602.out 5; have hcz55_0 : w51.cell? ⟨gb590, 0, none⟩ = some (.int .i64 t583) := (blk_cell BK590.out 0).trans rfl; have hcz55_1 : w51.cell? ⟨gb590, 1, none⟩ = some (.int .i64 t584) := (blk_cell BK590.out 1).trans rfl; have hcz55_2 : w51.cell? ⟨gb590, 2, none⟩ = some (.int .i64 t585) := (blk_cell BK590.out 2).trans rfl; have hcz55_3 : w51.cell? ⟨gb590, 3, none⟩ = some (.int .i64 t586) := (blk_cell BK590.out 3).trans rfl; have hcz55_4 : w51.cell? ⟨gb590, 4, none⟩ = some (.string t587) := (blk_cell BK590.out 4).trans rfl; have hcz55_5 : w51.cell? ⟨gb590, 5, none⟩ = some (.string t588) := (blk_cell BK590.out 5).trans rfl; have hfz55_0 := blk_frozen BK590.out 0; have hfz55_1 := blk_frozen BK590.out 1; have hfz55_2 := blk_frozen BK590.out 2; have hfz55_3 := blk_frozen BK590.out 3; have hfz55_4 := blk_frozen BK590.out 4; have hfz55_5 := blk_frozen BK590.out 5) | ((with_reducible refine gate_callee (f := 17) rfl ?_); refine goesL_ (some 41) rfl rfl Tryd.func17 (by kernel_rfl) rfl #[.agg #[.int .i64 t583, .int .i64 t584, .int .i64 t585, .int .i64 t586, .string t587, .string t588], .agg #[.int .i64 t595, .int .i64 t596, .int .i64 t597, .int .i64 t598, .string t599, .string t600]] rfl (by (try simp only [List.map_toArray, List.map_cons, List.map_nil]); first | done | rfl | (simp only [List.length_drop, List.length_take]; rfl)) ?_; (with_reducible refine (weld_Join.calls k t583 t584 t585 t586 t587 t588 t595 t596 t597 t598 t599 t600 t603 t604 t605 t606 t607 t608 t609 _ ?side1 A18.out).mono ?_); (case side1 => first | (with_reducible exact HG.out) | exact Glob.Globs_below HG.out (by repeat (first | (with_reducible first | exact HB.out | apply below_alloc | apply pw_below_drewN | apply below_drew1 | refine below_set ?_ GE571.out | refine below_set ?_ GE590.out | refine below_set ?_ GE602.out) | exact HB.out))); rintro e w56 ⟨rfl, hb⟩; refine ⟨_, rfl, ?_⟩; have n0_ := Aside0.mk (blk_below (g := gb571) (o := .cells #[.int .i64 0, .int .i64 0, .int .i64 0, .int .i64 0, .string (⟨#[]⟩ : ByteArray), .string (⟨#[]⟩ : ByteArray)] 26 (0, 0)) (by refine pl ?_; refine blk_far ?_ NB571_602.out _; refine pl ?_; refine blk_far ?_ NB571_602.out _; refine pl ?_; refine blk_far ?_ NB571_602.out _; refine pl ?_; refine blk_far ?_ NB571_602.out _; refine pl ?_; refine blk_far ?_ NB571_602.out _; refine pl ?_; refine blk_far ?_ NB571_602.out _; refine pl ?_; exact BK571.out) hb); have n1_ := Aside0.mk (blk_below (g := gb590) (o := .cells #[.int .i64 t583, .int .i64 t584, .int .i64 t585, .int .i64 t586, .string t587, .string t588] 26 (0, 0)) (by refine pl ?_; refine blk_far ?_ NB590_602.out _; refine pl ?_; refine blk_far ?_ NB590_602.out _; refine pl ?_; refine blk_far ?_ NB590_602.out _; refine pl ?_; refine blk_far ?_ NB590_602.out _; refine pl ?_; refine blk_far ?_ NB590_602.out _; refine pl ?_; refine blk_far ?_ NB590_602.out _; refine pl ?_; exact BK590.out) hb); have n2_ := Aside0.mk (blk_below (g := gb602) (o := .cells #[.int .i64 t595, .int .i64 t596, .int .i64 t597, .int .i64 t598, .string t599, .string t600] 26 (0, 0)) (by refine pl ?_; refine blk_put (cs := #[.int .i64 t595, .int .i64 t596, .int .i64 t597, .int .i64 t598, .string t599, .string (⟨#[]⟩ : ByteArray)]) ?_ 5 _ rfl; refine pl ?_; refine blk_put (cs := #[.int .i64 t595, .int .i64 t596, .int .i64 t597, .int .i64 t598, .string (⟨#[]⟩ : ByteArray), .string (⟨#[]⟩ : ByteArray)]) ?_ 4 _ rfl; refine pl ?_; refine blk_put (cs := #[.int .i64 t595, .int .i64 t596, .int .i64 t597, .int .i64 0, .string (⟨#[]⟩ : ByteArray), .string (⟨#[]⟩ : ByteArray)]) ?_ 3 _ rfl; refine pl ?_; refine blk_put (cs := #[.int .i64 t595, .int .i64 t596, .int .i64 0, .int .i64 0, .string (⟨#[]⟩ : ByteArray), .string (⟨#[]⟩ : ByteArray)]) ?_ 2 _ rfl; refine pl ?_; refine blk_put (cs := #[.int .i64 t595, .int .i64 0, .int .i64 0, .int .i64 0, .string (⟨#[]⟩ : ByteArray), .string (⟨#[]⟩ : ByteArray)]) ?_ 1 _ rfl; refine pl ?_; refine blk_put (cs := #[.int .i64 0, .int .i64 0, .int .i64 0, .int .i64 0, .string (⟨#[]⟩ : ByteArray), .string (⟨#[]⟩ : ByteArray)]) ?_ 0 _ rfl; refine pl ?_; exact BK602.out) hb); have n3_ := Aside0.mk (below_step (by repeat (first | (with_reducible first | exact HB.out | apply below_alloc | apply pw_below_drewN | apply below_drew1 | refine below_set ?_ GE571.out | refine below_set ?_ GE590.out | refine below_set ?_ GE602.out) | exact HB.out)) hb); clear BK571; clear BK590; clear BK602; clear HB; have BK571 := n0_; have BK590 := n1_; have BK602 := n2_; have HB := n3_; clear n0_ n1_ n2_ n3_; (try clear hb); (try clear hb2); (try clear hk); (try clear hi)) | ((with_reducible refine gate_dst (N := 8) rfl ?_); refine box_event ?hg (N := 8) ?hd (cs := #[.int .i64 0, .int .i64 0, .int .i64 0, .int .i64 0, .string (⟨#[]⟩ : ByteArray), .string (⟨#[]⟩ : ByteArray)]) (t := 26) ?hr ?_; (case hd => rfl); (case hg => rfl); (case hr => first | (go_simp; done) | (go_simp; rfl)); intro gb610 hg w57 hbox hb; have n0_ := Aside0.mk (blk_below (pl BK571.out) hb); have n1_ := Aside0.mk (blk_below (pl BK590.out) hb); have n2_ := Aside0.mk (blk_below (pl BK602.out) hb); have n3_ := Aside0.mk (below_step (by repeat (first | (with_reducible first | exact HB.out | apply below_alloc | apply pw_below_drewN | apply below_drew1 | refine below_set ?_ GE571.out | refine below_set ?_ GE590.out | refine below_set ?_ GE602.out) | exact HB.out)) hb); have n4_ := Aside0.mk (hbox); have n5_ := Aside0.mk ((by rw [hg]; exact (below_size (by repeat (first | (with_reducible first | exact HB.out | apply below_alloc | apply pw_below_drewN | apply below_drew1 | refine below_set ?_ GE571.out | refine below_set ?_ GE590.out | refine below_set ?_ GE602.out) | exact HB.out))) : w.heap.size ≤ gb610)); have n6_ := Aside0.mk ((by rw [hg]; exact (below_size (by repeat (first | (with_reducible first | exact HB.out | apply below_alloc | apply pw_below_drewN | apply below_drew1 | refine below_set ?_ GE571.out | refine below_set ?_ GE590.out | refine below_set ?_ GE602.out) | exact HB.out))) : w.heap.size ≤ gb610)); have n7_ := Aside0.mk ((by rw [hg]; exact Nat.ne_of_lt (blk_lt (pl BK571.out)) : gb571 ≠ gb610)); have n8_ := Aside0.mk ((by rw [hg]; exact Nat.ne_of_gt (blk_lt (pl BK571.out)) : gb610 ≠ gb571)); have n9_ := Aside0.mk ((by rw [hg]; exact Nat.ne_of_lt (blk_lt (pl BK590.out)) : gb590 ≠ gb610)); have n10_ := Aside0.mk ((by rw [hg]; exact Nat.ne_of_gt (blk_lt (pl BK590.out)) : gb610 ≠ gb590)); have n11_ := Aside0.mk ((by rw [hg]; exact Nat.ne_of_lt (blk_lt (pl BK602.out)) : gb602 ≠ gb610)); have n12_ := Aside0.mk ((by rw [hg]; exact Nat.ne_of_gt (blk_lt (pl BK602.out)) : gb610 ≠ gb602)); clear BK571; clear BK590; clear BK602; clear HB; have BK571 := n0_; have BK590 := n1_; have BK602 := n2_; have HB := n3_; have BK610 := n4_; have GW610 := n5_; have GE610 := n6_; have NB571_610 := n7_; have NB610_571 := n8_; have NB590_610 := n9_; have NB610_590 := n10_; have NB602_610 := n11_; have NB610_602 := n12_; clear n0_ n1_ n2_ n3_ n4_ n5_ n6_ n7_ n8_ n9_ n10_ n11_ n12_; clear hb hbox hg; have hnb58 := NB610_571.out; have hnc58 := NB571_610.out; have hnb59 := NB610_590.out; have hnc59 := NB590_610.out; have hnb60 := NB610_602.out; have hnc60 := NB602_610.out; have hcz61_0 : w57.cell? ⟨gb610, 0, none⟩ = some (.int .i64 0) := (blk_cell BK610.out 0).trans rfl; have hcz61_1 : w57.cell? ⟨gb610, 1, none⟩ = some (.int .i64 0) := (blk_cell BK610.out 1).trans rfl; have hcz61_2 : w57.cell? ⟨gb610, 2, none⟩ = some (.int .i64 0) := (blk_cell BK610.out 2).trans rfl; have hcz61_3 : w57.cell? ⟨gb610, 3, none⟩ = some (.int .i64 0) := (blk_cell BK610.out 3).trans rfl; have hcz61_4 : w57.cell? ⟨gb610, 4, none⟩ = some (.string (⟨#[]⟩ : ByteArray)) := (blk_cell BK610.out 4).trans rfl; have hcz61_5 : w57.cell? ⟨gb610, 5, none⟩ = some (.string (⟨#[]⟩ : ByteArray)) := (blk_cell BK610.out 5).trans rfl; have hfz61_0 := blk_frozen BK610.out 0; have hfz61_1 := blk_frozen BK610.out 1; have hfz61_2 := blk_frozen BK610.out 2; have hfz61_3 := blk_frozen BK610.out 3; have hfz61_4 := blk_frozen BK610.out 4; have hfz61_5 := blk_frozen BK610.out 5; have hcz62_0 : w57.cell? ⟨gb571, 0, none⟩ = some (.int .i64 0) := (blk_cell BK571.out 0).trans rfl; have hcz62_1 : w57.cell? ⟨gb571, 1, none⟩ = some (.int .i64 0) := (blk_cell BK571.out 1).trans rfl; have hcz62_2 : w57.cell? ⟨gb571, 2, none⟩ = some (.int .i64 0) := (blk_cell BK571.out 2).trans rfl; have hcz62_3 : w57.cell? ⟨gb571, 3, none⟩ = some (.int .i64 0) := (blk_cell BK571.out 3).trans rfl; have hcz62_4 : w57.cell? ⟨gb571, 4, none⟩ = some (.string (⟨#[]⟩ : ByteArray)) := (blk_cell BK571.out 4).trans rfl; have hcz62_5 : w57.cell? ⟨gb571, 5, none⟩ = some (.string (⟨#[]⟩ : ByteArray)) := (blk_cell BK571.out 5).trans rfl; have hfz62_0 := blk_frozen BK571.out 0; have hfz62_1 := blk_frozen BK571.out 1; have hfz62_2 := blk_frozen BK571.out 2; have hfz62_3 := blk_frozen BK571.out 3; have hfz62_4 := blk_frozen BK571.out 4; have hfz62_5 := blk_frozen BK571.out 5))
       refine bodyPost_ret (results_ct rfl _ _ gb571 26 #[.int .i64 t603, .int .i64 t604, .int .i64 t605, .int .i64 t606, .string t607, .string t608] (0, 0) _ rfl (by refine pl ?_; refine blk_put (cs := #[.int .i64 t603, .int .i64 t604, .int .i64 t605, .int .i64 t606, .string t607, .string (⟨#[]⟩ : ByteArray)]) ?_ 5 _ rfl; refine pl ?_; refine blk_put (cs := #[.int .i64 t603, .int .i64 t604, .int .i64 t605, .int .i64 t606, .string (⟨#[]⟩ : ByteArray), .string (⟨#[]⟩ : ByteArray)]) ?_ 4 _ rfl; refine pl ?_; refine blk_put (cs := #[.int .i64 t603, .int .i64 t604, .int .i64 t605, .int .i64 0, .string (⟨#[]⟩ : ByteArray), .string (⟨#[]⟩ : ByteArray)]) ?_ 3 _ rfl; refine pl ?_; refine blk_put (cs := #[.int .i64 t603, .int .i64 t604, .int .i64 0, .int .i64 0, .string (⟨#[]⟩ : ByteArray), .string (⟨#[]⟩ : ByteArray)]) ?_ 2 _ rfl; refine pl ?_; refine blk_put (cs := #[.int .i64 t603, .int .i64 0, .int .i64 0, .int .i64 0, .string (⟨#[]⟩ : ByteArray), .string (⟨#[]⟩ : ByteArray)]) ?_ 1 _ rfl; refine pl ?_; refine blk_put (cs := #[.int .i64 0, .int .i64 0, .int .i64 0, .int .i64 0, .string (⟨#[]⟩ : ByteArray), .string (⟨#[]⟩ : ByteArray)]) ?_ 0 _ rfl; refine pl ?_; refine blk_far ?_ NB571_610.out _; refine pl ?_; refine blk_far ?_ NB571_610.out _; refine pl ?_; refine blk_far ?_ NB571_610.out _; refine pl ?_; refine blk_far ?_ NB571_610.out _; refine pl ?_; refine blk_far ?_ NB571_610.out _; refine pl ?_; refine blk_far ?_ NB571_610.out _; refine pl ?_; exact BK571.out) Tryd.underlying26 rfl (by kernel_rfl)) rfl ?_
       exact ⟨by first | rfl | (simp [errW_none, errW_some] <;> rfl) | (simp only [← hji11]; first | rfl | (simp [errW_none, errW_some] <;> rfl)) | (simp [*, errW_none, errW_some] <;> rfl), by repeat (first | (with_reducible first | exact HB.out | apply below_alloc | apply pw_below_drewN | apply below_drew1 | refine below_set ?_ GE571.out | refine below_set ?_ GE590.out | refine below_set ?_ GE602.out | refine below_set ?_ GE610.out) | exact HB.out)⟩
     ·replace c19 := Bool.eq_false_iff.mpr c19
      subst c19
      have H1 : (some (t603, t604, t605, t606, t607, t608, false)) = some (r1, r2, r3, r4, r5, r6, r7) := by rw [if_neg (show ¬ (false = true) by decide)] at H; exact H
      clear H
      have H := H1
      clear H1
      simp only [Option.some.injEq, Prod.mk.injEq] at H
      obtain ⟨rfl, rfl, rfl, rfl, rfl, rfl, rfl⟩ := H
      go_enter Tryd.func23, Tryd.ntmps23
      go_wp2_with (first | ((with_reducible refine gate_dst (N := 2) rfl ?_); refine box_event ?hg (N := 2) ?hd (cs := #[.int .i64 0, .int .i64 0, .int .i64 0, .int .i64 0, .string (⟨#[]⟩ : ByteArray), .string (⟨#[]⟩ : ByteArray)]) (t := 26) ?hr ?_; (case hd => rfl); (case hg => rfl); (case hr => first | (go_simp; done) | (go_simp; rfl)); intro gb571 hg w63 hbox hb; have n0_ := Aside0.mk (below_step (bl HB.out) hb); have n1_ := Aside0.mk (hbox); have n2_ := Aside0.mk ((by rw [hg]; exact (below_size (bl HB.out)) : w.heap.size ≤ gb571)); have n3_ := Aside0.mk ((by rw [hg]; exact (below_size (bl HB.out)) : w.heap.size ≤ gb571)); clear HB; have HB := n0_; have BK571 := n1_; have GW571 := n2_; have GE571 := n3_; clear n0_ n1_ n2_ n3_; clear hb hbox hg; have q64 : ((ji11) : Int) ≤ ((l0.length : Int) : Int) := of_decide_eq_true (by first | (with_reducible assumption) | assumption); obtain ⟨i064, hi064, _, hsz64, _⟩ := info_parts info26; have hroom64 : l0.length ≤ c0 := HC0.out; have hC64 : Kd.C k26 _ A0 l0.length l0 := HR0.out; have hcut64 := cut_to (P := Tryd.prog) 27 26 .i64 Tryd.underlying27 hi064 A0 l0.length c0 (ji11) (of_decide_eq_true (by first | (with_reducible assumption) | assumption)) q64 hroom64; have hr64 := Kd.C_take (m := ((ji11) : Int).toNat) hC64 (by omega); have hy64 : y579.length = ((ji11) : Int).toNat := (by rw [Ny579.out, List.length_take]; omega); rw [← Ny579.out] at hr64; rw [← hy64] at hcut64; have HR582 := Aside0.mk hr64; have HC582 := Aside0.mk (show y579.length ≤ c0 from by omega); clear hr64 hC64 hroom64 hi064 hsz64; have KY64 := Aside0.mk hy64; clear hy64; replace q64 := eq_true q64) | ((with_reducible refine gate_callee (f := 23) rfl ?_); refine goesL_ (some 26) rfl rfl Tryd.func23 (by kernel_rfl) rfl #[.slice A0 y579.length c0] rfl (by (try simp only [List.map_toArray, List.map_cons, List.map_nil]); first | done | rfl | (simp only [List.length_drop, List.length_take]; rfl)) ?_; (with_reducible refine (ih k (by omega) _ _ y579 t583 t584 t585 t586 t587 t588 false _ ?side1 ?side2 ?side3 A14.out).mono ?_); (case side1 => first | (with_reducible exact HG.out) | exact Glob.Globs_below HG.out (by repeat (first | (with_reducible first | exact HB.out | apply below_alloc | apply pw_below_drewN | apply below_drew1 | refine below_set ?_ GE571.out) | exact HB.out))); (case side2 => repeat (first | exact (Kd.C_below HR582.out HB.out) | (with_reducible refine Kd.C_alloc ?_ _) | (with_reducible refine Kd.C_drewN ?_ _) | (with_reducible refine Kd.C_drew ?_))); (case side3 => exact HC582.out); rintro e w65 ⟨rfl, hb⟩; refine ⟨_, rfl, ?_⟩; have n0_ := Aside0.mk (blk_below (pl BK571.out) hb); have n1_ := Aside0.mk (below_step (by repeat (first | (with_reducible first | exact HB.out | apply below_alloc | apply pw_below_drewN | apply below_drew1 | refine below_set ?_ GE571.out) | exact HB.out)) hb); clear BK571; clear HB; have BK571 := n0_; have HB := n1_; clear n0_ n1_; (try clear hb); (try clear hb2); (try clear hk); (try clear hi)) | ((with_reducible refine gate_dst (N := 4) rfl ?_); refine box_event ?hg (N := 4) ?hd (cs := #[.int .i64 0, .int .i64 0, .int .i64 0, .int .i64 0, .string (⟨#[]⟩ : ByteArray), .string (⟨#[]⟩ : ByteArray)]) (t := 26) ?hr ?_; (case hd => rfl); (case hg => rfl); (case hr => first | (go_simp; done) | (go_simp; rfl)); intro gb590 hg w66 hbox hb; have n0_ := Aside0.mk (blk_below (pl BK571.out) hb); have n1_ := Aside0.mk (below_step (by repeat (first | (with_reducible first | exact HB.out | apply below_alloc | apply pw_below_drewN | apply below_drew1 | refine below_set ?_ GE571.out) | exact HB.out)) hb); have n2_ := Aside0.mk (hbox); have n3_ := Aside0.mk ((by rw [hg]; exact (below_size (by repeat (first | (with_reducible first | exact HB.out | apply below_alloc | apply pw_below_drewN | apply below_drew1 | refine below_set ?_ GE571.out) | exact HB.out))) : w.heap.size ≤ gb590)); have n4_ := Aside0.mk ((by rw [hg]; exact (below_size (by repeat (first | (with_reducible first | exact HB.out | apply below_alloc | apply pw_below_drewN | apply below_drew1 | refine below_set ?_ GE571.out) | exact HB.out))) : w.heap.size ≤ gb590)); have n5_ := Aside0.mk ((by rw [hg]; exact Nat.ne_of_lt (blk_lt (pl BK571.out)) : gb571 ≠ gb590)); have n6_ := Aside0.mk ((by rw [hg]; exact Nat.ne_of_gt (blk_lt (pl BK571.out)) : gb590 ≠ gb571)); clear BK571; clear HB; have BK571 := n0_; have HB := n1_; have BK590 := n2_; have GW590 := n3_; have GE590 := n4_; have NB571_590 := n5_; have NB590_571 := n6_; clear n0_ n1_ n2_ n3_ n4_ n5_ n6_; clear hb hbox hg; have hnb67 := NB590_571.out; have hnc67 := NB571_590.out; have hcz68_0 : w66.cell? ⟨gb590, 0, none⟩ = some (.int .i64 0) := (blk_cell BK590.out 0).trans rfl; have hcz68_1 : w66.cell? ⟨gb590, 1, none⟩ = some (.int .i64 0) := (blk_cell BK590.out 1).trans rfl; have hcz68_2 : w66.cell? ⟨gb590, 2, none⟩ = some (.int .i64 0) := (blk_cell BK590.out 2).trans rfl; have hcz68_3 : w66.cell? ⟨gb590, 3, none⟩ = some (.int .i64 0) := (blk_cell BK590.out 3).trans rfl; have hcz68_4 : w66.cell? ⟨gb590, 4, none⟩ = some (.string (⟨#[]⟩ : ByteArray)) := (blk_cell BK590.out 4).trans rfl; have hcz68_5 : w66.cell? ⟨gb590, 5, none⟩ = some (.string (⟨#[]⟩ : ByteArray)) := (blk_cell BK590.out 5).trans rfl; have hfz68_0 := blk_frozen BK590.out 0; have hfz68_1 := blk_frozen BK590.out 1; have hfz68_2 := blk_frozen BK590.out 2; have hfz68_3 := blk_frozen BK590.out 3; have hfz68_4 := blk_frozen BK590.out 4; have hfz68_5 := blk_frozen BK590.out 5) | ((with_reducible refine gate_store (t := 26) (p := 4) rfl ?_); refine store_event (t := 26) (p := 4) (v := ?vo_w69) (w1 := ((((((w66.setCell ⟨gb590, 0, none⟩ (.int .i64 t583)).setCell ⟨gb590, 1, none⟩ (.int .i64 t584)).setCell ⟨gb590, 2, none⟩ (.int .i64 t585)).setCell ⟨gb590, 3, none⟩ (.int .i64 t586)).setCell ⟨gb590, 4, none⟩ (.string t587)).setCell ⟨gb590, 5, none⟩ (.string t588))) ?hg ?ho ?hn ?hr ?_; (case ho => rfl); (case hg => rfl); (case hn => rfl); (case hr => first | (go_simp; done) | (go_simp; rfl)); intro w69 hw; have n0_ : Aside0 (w69.heap[gb571]? = some (.cells #[.int .i64 0, .int .i64 0, .int .i64 0, .int .i64 0, .string (⟨#[]⟩ : ByteArray), .string (⟨#[]⟩ : ByteArray)] 26 (0, 0))) := ⟨(by rw [hw]; exact (by refine pl ?_; refine blk_far ?_ NB571_590.out _; refine pl ?_; refine blk_far ?_ NB571_590.out _; refine pl ?_; refine blk_far ?_ NB571_590.out _; refine pl ?_; refine blk_far ?_ NB571_590.out _; refine pl ?_; refine blk_far ?_ NB571_590.out _; refine pl ?_; refine blk_far ?_ NB571_590.out _; refine pl ?_; exact BK571.out))⟩; have n1_ : Aside0 (w69.heap[gb590]? = some (.cells #[.int .i64 t583, .int .i64 t584, .int .i64 t585, .int .i64 t586, .string t587, .string t588] 26 (0, 0))) := ⟨(by rw [hw]; exact (by refine pl ?_; refine blk_put (cs := #[.int .i64 t583, .int .i64 t584, .int .i64 t585, .int .i64 t586, .string t587, .string (⟨#[]⟩ : ByteArray)]) ?_ 5 _ rfl; refine pl ?_; refine blk_put (cs := #[.int .i64 t583, .int .i64 t584, .int .i64 t585, .int .i64 t586, .string (⟨#[]⟩ : ByteArray), .string (⟨#[]⟩ : ByteArray)]) ?_ 4 _ rfl; refine pl ?_; refine blk_put (cs := #[.int .i64 t583, .int .i64 t584, .int .i64 t585, .int .i64 0, .string (⟨#[]⟩ : ByteArray), .string (⟨#[]⟩ : ByteArray)]) ?_ 3 _ rfl; refine pl ?_; refine blk_put (cs := #[.int .i64 t583, .int .i64 t584, .int .i64 0, .int .i64 0, .string (⟨#[]⟩ : ByteArray), .string (⟨#[]⟩ : ByteArray)]) ?_ 2 _ rfl; refine pl ?_; refine blk_put (cs := #[.int .i64 t583, .int .i64 0, .int .i64 0, .int .i64 0, .string (⟨#[]⟩ : ByteArray), .string (⟨#[]⟩ : ByteArray)]) ?_ 1 _ rfl; refine pl ?_; refine blk_put (cs := #[.int .i64 0, .int .i64 0, .int .i64 0, .int .i64 0, .string (⟨#[]⟩ : ByteArray), .string (⟨#[]⟩ : ByteArray)]) ?_ 0 _ rfl; refine pl ?_; exact BK590.out))⟩; have n2_ : Aside0 (Below w.heap.size w w69) := ⟨(by rw [hw]; exact (by repeat (first | (with_reducible first | exact HB.out | apply below_alloc | apply pw_below_drewN | apply below_drew1 | refine below_set ?_ GE571.out | refine below_set ?_ GE590.out) | exact HB.out)))⟩; clear hw; clear BK571; clear BK590; clear HB; have BK571 := n0_; have BK590 := n1_; have HB := n2_; clear n0_ n1_ n2_; have q70 : ((ji11) : Int) ≤ ((l0.length : Int) : Int) := of_decide_eq_true (by first | (with_reducible assumption) | assumption); obtain ⟨i070, hi070, _, hsz70, _⟩ := info_parts info26; have hroom70 : l0.length ≤ c0 := HC0.out; have hC70 : Kd.C k26 _ A0 l0.length l0 := HR0.out; have q070 : (0 : Int) ≤ ((ji11) : Int) := of_decide_eq_true (by first | (with_reducible assumption) | assumption); have hcut70 := cut_from (P := Tryd.prog) 27 26 .i64 Tryd.underlying27 hi070 6 hsz70 A0 l0.length c0 (ji11) q070 q70; have hr70 := Kd.C_drop (m := ((ji11) : Int).toNat) (c := c0) hC70 (by omega) hroom70; obtain ⟨A70, hA70⟩ : ∃ A1, A1 = (if c0 = ((ji11) : Int).toNat then A0 else (A0 : Option Addr).map (·.add (((ji11) : Int).toNat * 6))) := ⟨_, rfl⟩; obtain ⟨c70, hc70⟩ : ∃ c1, c1 = c0 - ((ji11) : Int).toNat := ⟨_, rfl⟩; have hy70 : y591.length = l0.length - ((ji11) : Int).toNat := (by rw [Ny591.out, List.length_drop] <;> omega); rw [show (l0).drop ((ji11) : Int).toNat = y591 from Ny591.out.symm] at hr70; replace hr70 : Kd.C k26 _ A70 y591.length y591 := (by rw [hA70]; exact hr70); rw [← hy70, ← hA70, ← hc70] at hcut70; have HR594 := Aside0.mk hr70; have HC594 := Aside0.mk (show y591.length ≤ c70 from by rw [hy70, hc70]; exact Nat.sub_le_sub_right hroom70 _); clear hr70 hC70 hroom70 hi070 hsz70 hc70; have KY70 := Aside0.mk hy70; have KA70 := Aside0.mk hA70; clear hy70 hA70; replace q70 := eq_true q70) | ((with_reducible refine gate_callee (f := 23) rfl ?_); refine goesL_ (some 35) rfl rfl Tryd.func23 (by kernel_rfl) rfl #[.slice A70 y591.length c70] rfl (by (try simp only [List.map_toArray, List.map_cons, List.map_nil]); first | done | rfl | (simp only [List.length_drop, List.length_take]; rfl)) ?_; (with_reducible refine (ih k (by omega) _ _ y591 t595 t596 t597 t598 t599 t600 t601 _ ?side1 ?side2 ?side3 A17.out).mono ?_); (case side1 => first | (with_reducible exact HG.out) | exact Glob.Globs_below HG.out (by repeat (first | (with_reducible first | exact HB.out | apply below_alloc | apply pw_below_drewN | apply below_drew1 | refine below_set ?_ GE571.out | refine below_set ?_ GE590.out) | exact HB.out))); (case side2 => repeat (first | exact (Kd.C_below HR594.out HB.out) | (with_reducible refine Kd.C_alloc ?_ _) | (with_reducible refine Kd.C_drewN ?_ _) | (with_reducible refine Kd.C_drew ?_))); (case side3 => exact HC594.out); rintro e w71 ⟨rfl, hb⟩; refine ⟨_, rfl, ?_⟩; have n0_ := Aside0.mk (blk_below (pl BK571.out) hb); have n1_ := Aside0.mk (blk_below (pl BK590.out) hb); have n2_ := Aside0.mk (below_step (by repeat (first | (with_reducible first | exact HB.out | apply below_alloc | apply pw_below_drewN | apply below_drew1 | refine below_set ?_ GE571.out | refine below_set ?_ GE590.out) | exact HB.out)) hb); clear BK571; clear BK590; clear HB; have BK571 := n0_; have BK590 := n1_; have HB := n2_; clear n0_ n1_ n2_; (try clear hb); (try clear hb2); (try clear hk); (try clear hi)) | ((with_reducible refine gate_dst (N := 6) rfl ?_); refine box_event ?hg (N := 6) ?hd (cs := #[.int .i64 0, .int .i64 0, .int .i64 0, .int .i64 0, .string (⟨#[]⟩ : ByteArray), .string (⟨#[]⟩ : ByteArray)]) (t := 26) ?hr ?_; (case hd => rfl); (case hg => rfl); (case hr => first | (go_simp; done) | (go_simp; rfl)); intro gb602 hg w72 hbox hb; have n0_ := Aside0.mk (blk_below (pl BK571.out) hb); have n1_ := Aside0.mk (blk_below (pl BK590.out) hb); have n2_ := Aside0.mk (below_step (by repeat (first | (with_reducible first | exact HB.out | apply below_alloc | apply pw_below_drewN | apply below_drew1 | refine below_set ?_ GE571.out | refine below_set ?_ GE590.out) | exact HB.out)) hb); have n3_ := Aside0.mk (hbox); have n4_ := Aside0.mk ((by rw [hg]; exact (below_size (by repeat (first | (with_reducible first | exact HB.out | apply below_alloc | apply pw_below_drewN | apply below_drew1 | refine below_set ?_ GE571.out | refine below_set ?_ GE590.out) | exact HB.out))) : w.heap.size ≤ gb602)); have n5_ := Aside0.mk ((by rw [hg]; exact (below_size (by repeat (first | (with_reducible first | exact HB.out | apply below_alloc | apply pw_below_drewN | apply below_drew1 | refine below_set ?_ GE571.out | refine below_set ?_ GE590.out) | exact HB.out))) : w.heap.size ≤ gb602)); have n6_ := Aside0.mk ((by rw [hg]; exact Nat.ne_of_lt (blk_lt (pl BK571.out)) : gb571 ≠ gb602)); have n7_ := Aside0.mk ((by rw [hg]; exact Nat.ne_of_gt (blk_lt (pl BK571.out)) : gb602 ≠ gb571)); have n8_ := Aside0.mk ((by rw [hg]; exact Nat.ne_of_lt (blk_lt (pl BK590.out)) : gb590 ≠ gb602)); have n9_ := Aside0.mk ((by rw [hg]; exact Nat.ne_of_gt (blk_lt (pl BK590.out)) : gb602 ≠ gb590)); clear BK571; clear BK590; clear HB; have BK571 := n0_; have BK590 := n1_; have HB := n2_; have BK602 := n3_; have GW602 := n4_; have GE602 := n5_; have NB571_602 := n6_; have NB602_571 := n7_; have NB590_602 := n8_; have NB602_590 := n9_; clear n0_ n1_ n2_ n3_ n4_ n5_ n6_ n7_ n8_ n9_; clear hb hbox hg; have hnb73 := NB602_571.out; have hnc73 := NB571_602.out; have hnb74 := NB602_590.out; have hnc74 := NB590_602.out; have hcz75_0 : w72.cell? ⟨gb602, 0, none⟩ = some (.int .i64 0) := (blk_cell BK602.out 0).trans rfl; have hcz75_1 : w72.cell? ⟨gb602, 1, none⟩ = some (.int .i64 0) := (blk_cell BK602.out 1).trans rfl; have hcz75_2 : w72.cell? ⟨gb602, 2, none⟩ = some (.int .i64 0) := (blk_cell BK602.out 2).trans rfl; have hcz75_3 : w72.cell? ⟨gb602, 3, none⟩ = some (.int .i64 0) := (blk_cell BK602.out 3).trans rfl; have hcz75_4 : w72.cell? ⟨gb602, 4, none⟩ = some (.string (⟨#[]⟩ : ByteArray)) := (blk_cell BK602.out 4).trans rfl; have hcz75_5 : w72.cell? ⟨gb602, 5, none⟩ = some (.string (⟨#[]⟩ : ByteArray)) := (blk_cell BK602.out 5).trans rfl; have hfz75_0 := blk_frozen BK602.out 0; have hfz75_1 := blk_frozen BK602.out 1; have hfz75_2 := blk_frozen BK602.out 2; have hfz75_3 := blk_frozen BK602.out 3; have hfz75_4 := blk_frozen BK602.out 4; have hfz75_5 := blk_frozen BK602.out 5; have hcz76_0 : w72.cell? ⟨gb590, 0, none⟩ = some (.int .i64 t583) := (blk_cell BK590.out 0).trans rfl; have hcz76_1 : w72.cell? ⟨gb590, 1, none⟩ = some (.int .i64 t584) := (blk_cell BK590.out 1).trans rfl; have hcz76_2 : w72.cell? ⟨gb590, 2, none⟩ = some (.int .i64 t585) := (blk_cell BK590.out 2).trans rfl; have hcz76_3 : w72.cell? ⟨gb590, 3, none⟩ = some (.int .i64 t586) := (blk_cell BK590.out 3).trans rfl; have hcz76_4 : w72.cell? ⟨gb590, 4, none⟩ = some (.string t587) := (blk_cell BK590.out 4).trans rfl; have hcz76_5 : w72.cell? ⟨gb590, 5, none⟩ = some (.string t588) := (blk_cell BK590.out 5).trans rfl; have hfz76_0 := blk_frozen BK590.out 0; have hfz76_1 := blk_frozen BK590.out 1; have hfz76_2 := blk_frozen BK590.out 2; have hfz76_3 := blk_frozen BK590.out 3; have hfz76_4 := blk_frozen BK590.out 4; have hfz76_5 := blk_frozen BK590.out 5) | ((with_reducible refine gate_callee (f := 17) rfl ?_); refine goesL_ (some 41) rfl rfl Tryd.func17 (by kernel_rfl) rfl #[.agg #[.int .i64 t583, .int .i64 t584, .int .i64 t585, .int .i64 t586, .string t587, .string t588], .agg #[.int .i64 t595, .int .i64 t596, .int .i64 t597, .int .i64 t598, .string t599, .string t600]] rfl (by (try simp only [List.map_toArray, List.map_cons, List.map_nil]); first | done | rfl | (simp only [List.length_drop, List.length_take]; rfl)) ?_; (with_reducible refine (weld_Join.calls k t583 t584 t585 t586 t587 t588 t595 t596 t597 t598 t599 t600 t603 t604 t605 t606 t607 t608 t609 _ ?side1 A18.out).mono ?_); (case side1 => first | (with_reducible exact HG.out) | exact Glob.Globs_below HG.out (by repeat (first | (with_reducible first | exact HB.out | apply below_alloc | apply pw_below_drewN | apply below_drew1 | refine below_set ?_ GE571.out | refine below_set ?_ GE590.out | refine below_set ?_ GE602.out) | exact HB.out))); rintro e w77 ⟨rfl, hb⟩; refine ⟨_, rfl, ?_⟩; have n0_ := Aside0.mk (blk_below (g := gb571) (o := .cells #[.int .i64 0, .int .i64 0, .int .i64 0, .int .i64 0, .string (⟨#[]⟩ : ByteArray), .string (⟨#[]⟩ : ByteArray)] 26 (0, 0)) (by refine pl ?_; refine blk_far ?_ NB571_602.out _; refine pl ?_; refine blk_far ?_ NB571_602.out _; refine pl ?_; refine blk_far ?_ NB571_602.out _; refine pl ?_; refine blk_far ?_ NB571_602.out _; refine pl ?_; refine blk_far ?_ NB571_602.out _; refine pl ?_; refine blk_far ?_ NB571_602.out _; refine pl ?_; exact BK571.out) hb); have n1_ := Aside0.mk (blk_below (g := gb590) (o := .cells #[.int .i64 t583, .int .i64 t584, .int .i64 t585, .int .i64 t586, .string t587, .string t588] 26 (0, 0)) (by refine pl ?_; refine blk_far ?_ NB590_602.out _; refine pl ?_; refine blk_far ?_ NB590_602.out _; refine pl ?_; refine blk_far ?_ NB590_602.out _; refine pl ?_; refine blk_far ?_ NB590_602.out _; refine pl ?_; refine blk_far ?_ NB590_602.out _; refine pl ?_; refine blk_far ?_ NB590_602.out _; refine pl ?_; exact BK590.out) hb); have n2_ := Aside0.mk (blk_below (g := gb602) (o := .cells #[.int .i64 t595, .int .i64 t596, .int .i64 t597, .int .i64 t598, .string t599, .string t600] 26 (0, 0)) (by refine pl ?_; refine blk_put (cs := #[.int .i64 t595, .int .i64 t596, .int .i64 t597, .int .i64 t598, .string t599, .string (⟨#[]⟩ : ByteArray)]) ?_ 5 _ rfl; refine pl ?_; refine blk_put (cs := #[.int .i64 t595, .int .i64 t596, .int .i64 t597, .int .i64 t598, .string (⟨#[]⟩ : ByteArray), .string (⟨#[]⟩ : ByteArray)]) ?_ 4 _ rfl; refine pl ?_; refine blk_put (cs := #[.int .i64 t595, .int .i64 t596, .int .i64 t597, .int .i64 0, .string (⟨#[]⟩ : ByteArray), .string (⟨#[]⟩ : ByteArray)]) ?_ 3 _ rfl; refine pl ?_; refine blk_put (cs := #[.int .i64 t595, .int .i64 t596, .int .i64 0, .int .i64 0, .string (⟨#[]⟩ : ByteArray), .string (⟨#[]⟩ : ByteArray)]) ?_ 2 _ rfl; refine pl ?_; refine blk_put (cs := #[.int .i64 t595, .int .i64 0, .int .i64 0, .int .i64 0, .string (⟨#[]⟩ : ByteArray), .string (⟨#[]⟩ : ByteArray)]) ?_ 1 _ rfl; refine pl ?_; refine blk_put (cs := #[.int .i64 0, .int .i64 0, .int .i64 0, .int .i64 0, .string (⟨#[]⟩ : ByteArray), .string (⟨#[]⟩ : ByteArray)]) ?_ 0 _ rfl; refine pl ?_; exact BK602.out) hb); have n3_ := Aside0.mk (below_step (by repeat (first | (with_reducible first | exact HB.out | apply below_alloc | apply pw_below_drewN | apply below_drew1 | refine below_set ?_ GE571.out | refine below_set ?_ GE590.out | refine below_set ?_ GE602.out) | exact HB.out)) hb); clear BK571; clear BK590; clear BK602; clear HB; have BK571 := n0_; have BK590 := n1_; have BK602 := n2_; have HB := n3_; clear n0_ n1_ n2_ n3_; (try clear hb); (try clear hb2); (try clear hk); (try clear hi)) | ((with_reducible refine gate_dst (N := 8) rfl ?_); refine box_event ?hg (N := 8) ?hd (cs := #[.int .i64 0, .int .i64 0, .int .i64 0, .int .i64 0, .string (⟨#[]⟩ : ByteArray), .string (⟨#[]⟩ : ByteArray)]) (t := 26) ?hr ?_; (case hd => rfl); (case hg => rfl); (case hr => first | (go_simp; done) | (go_simp; rfl)); intro gb610 hg w78 hbox hb; have n0_ := Aside0.mk (blk_below (pl BK571.out) hb); have n1_ := Aside0.mk (blk_below (pl BK590.out) hb); have n2_ := Aside0.mk (blk_below (pl BK602.out) hb); have n3_ := Aside0.mk (below_step (by repeat (first | (with_reducible first | exact HB.out | apply below_alloc | apply pw_below_drewN | apply below_drew1 | refine below_set ?_ GE571.out | refine below_set ?_ GE590.out | refine below_set ?_ GE602.out) | exact HB.out)) hb); have n4_ := Aside0.mk (hbox); have n5_ := Aside0.mk ((by rw [hg]; exact (below_size (by repeat (first | (with_reducible first | exact HB.out | apply below_alloc | apply pw_below_drewN | apply below_drew1 | refine below_set ?_ GE571.out | refine below_set ?_ GE590.out | refine below_set ?_ GE602.out) | exact HB.out))) : w.heap.size ≤ gb610)); have n6_ := Aside0.mk ((by rw [hg]; exact (below_size (by repeat (first | (with_reducible first | exact HB.out | apply below_alloc | apply pw_below_drewN | apply below_drew1 | refine below_set ?_ GE571.out | refine below_set ?_ GE590.out | refine below_set ?_ GE602.out) | exact HB.out))) : w.heap.size ≤ gb610)); have n7_ := Aside0.mk ((by rw [hg]; exact Nat.ne_of_lt (blk_lt (pl BK571.out)) : gb571 ≠ gb610)); have n8_ := Aside0.mk ((by rw [hg]; exact Nat.ne_of_gt (blk_lt (pl BK571.out)) : gb610 ≠ gb571)); have n9_ := Aside0.mk ((by rw [hg]; exact Nat.ne_of_lt (blk_lt (pl BK590.out)) : gb590 ≠ gb610)); have n10_ := Aside0.mk ((by rw [hg]; exact Nat.ne_of_gt (blk_lt (pl BK590.out)) : gb610 ≠ gb590)); have n11_ := Aside0.mk ((by rw [hg]; exact Nat.ne_of_lt (blk_lt (pl BK602.out)) : gb602 ≠ gb610)); have n12_ := Aside0.mk ((by rw [hg]; exact Nat.ne_of_gt (blk_lt (pl BK602.out)) : gb610 ≠ gb602)); clear BK571; clear BK590; clear BK602; clear HB; have BK571 := n0_; have BK590 := n1_; have BK602 := n2_; have HB := n3_; have BK610 := n4_; have GW610 := n5_; have GE610 := n6_; have NB571_610 := n7_; have NB610_571 := n8_; have NB590_610 := n9_; have NB610_590 := n10_; have NB602_610 := n11_; have NB610_602 := n12_; clear n0_ n1_ n2_ n3_ n4_ n5_ n6_ n7_ n8_ n9_ n10_ n11_ n12_; clear hb hbox hg; have hnb79 := NB610_571.out; have hnc79 := NB571_610.out; have hnb80 := NB610_590.out; have hnc80 := NB590_610.out; have hnb81 := NB610_602.out; have hnc81 := NB602_610.out; have hcz82_0 : w78.cell? ⟨gb610, 0, none⟩ = some (.int .i64 0) := (blk_cell BK610.out 0).trans rfl; have hcz82_1 : w78.cell? ⟨gb610, 1, none⟩ = some (.int .i64 0) := (blk_cell BK610.out 1).trans rfl; have hcz82_2 : w78.cell? ⟨gb610, 2, none⟩ = some (.int .i64 0) := (blk_cell BK610.out 2).trans rfl; have hcz82_3 : w78.cell? ⟨gb610, 3, none⟩ = some (.int .i64 0) := (blk_cell BK610.out 3).trans rfl; have hcz82_4 : w78.cell? ⟨gb610, 4, none⟩ = some (.string (⟨#[]⟩ : ByteArray)) := (blk_cell BK610.out 4).trans rfl; have hcz82_5 : w78.cell? ⟨gb610, 5, none⟩ = some (.string (⟨#[]⟩ : ByteArray)) := (blk_cell BK610.out 5).trans rfl; have hfz82_0 := blk_frozen BK610.out 0; have hfz82_1 := blk_frozen BK610.out 1; have hfz82_2 := blk_frozen BK610.out 2; have hfz82_3 := blk_frozen BK610.out 3; have hfz82_4 := blk_frozen BK610.out 4; have hfz82_5 := blk_frozen BK610.out 5; have hcz83_0 : w78.cell? ⟨gb571, 0, none⟩ = some (.int .i64 0) := (blk_cell BK571.out 0).trans rfl; have hcz83_1 : w78.cell? ⟨gb571, 1, none⟩ = some (.int .i64 0) := (blk_cell BK571.out 1).trans rfl; have hcz83_2 : w78.cell? ⟨gb571, 2, none⟩ = some (.int .i64 0) := (blk_cell BK571.out 2).trans rfl; have hcz83_3 : w78.cell? ⟨gb571, 3, none⟩ = some (.int .i64 0) := (blk_cell BK571.out 3).trans rfl; have hcz83_4 : w78.cell? ⟨gb571, 4, none⟩ = some (.string (⟨#[]⟩ : ByteArray)) := (blk_cell BK571.out 4).trans rfl; have hcz83_5 : w78.cell? ⟨gb571, 5, none⟩ = some (.string (⟨#[]⟩ : ByteArray)) := (blk_cell BK571.out 5).trans rfl; have hfz83_0 := blk_frozen BK571.out 0; have hfz83_1 := blk_frozen BK571.out 1; have hfz83_2 := blk_frozen BK571.out 2; have hfz83_3 := blk_frozen BK571.out 3; have hfz83_4 := blk_frozen BK571.out 4; have hfz83_5 := blk_frozen BK571.out 5))
      refine bodyPost_ret (results_ct rfl _ _ gb571 26 #[.int .i64 t603, .int .i64 t604, .int .i64 t605, .int .i64 t606, .string t607, .string t608] (0, 0) _ rfl (by refine pl ?_; refine blk_put (cs := #[.int .i64 t603, .int .i64 t604, .int .i64 t605, .int .i64 t606, .string t607, .string (⟨#[]⟩ : ByteArray)]) ?_ 5 _ rfl; refine pl ?_; refine blk_put (cs := #[.int .i64 t603, .int .i64 t604, .int .i64 t605, .int .i64 t606, .string (⟨#[]⟩ : ByteArray), .string (⟨#[]⟩ : ByteArray)]) ?_ 4 _ rfl; refine pl ?_; refine blk_put (cs := #[.int .i64 t603, .int .i64 t604, .int .i64 t605, .int .i64 0, .string (⟨#[]⟩ : ByteArray), .string (⟨#[]⟩ : ByteArray)]) ?_ 3 _ rfl; refine pl ?_; refine blk_put (cs := #[.int .i64 t603, .int .i64 t604, .int .i64 0, .int .i64 0, .string (⟨#[]⟩ : ByteArray), .string (⟨#[]⟩ : ByteArray)]) ?_ 2 _ rfl; refine pl ?_; refine blk_put (cs := #[.int .i64 t603, .int .i64 0, .int .i64 0, .int .i64 0, .string (⟨#[]⟩ : ByteArray), .string (⟨#[]⟩ : ByteArray)]) ?_ 1 _ rfl; refine pl ?_; refine blk_put (cs := #[.int .i64 0, .int .i64 0, .int .i64 0, .int .i64 0, .string (⟨#[]⟩ : ByteArray), .string (⟨#[]⟩ : ByteArray)]) ?_ 0 _ rfl; refine pl ?_; refine blk_far ?_ NB571_610.out _; refine pl ?_; refine blk_far ?_ NB571_610.out _; refine pl ?_; refine blk_far ?_ NB571_610.out _; refine pl ?_; refine blk_far ?_ NB571_610.out _; refine pl ?_; refine blk_far ?_ NB571_610.out _; refine pl ?_; refine blk_far ?_ NB571_610.out _; refine pl ?_; exact BK571.out) Tryd.underlying26 rfl (by kernel_rfl)) rfl ?_
      exact ⟨by first | rfl | (simp [errW_none, errW_some] <;> rfl) | (simp only [← hji11]; first | rfl | (simp [errW_none, errW_some] <;> rfl)) | (simp [*, errW_none, errW_some] <;> rfl), by repeat (first | (with_reducible first | exact HB.out | apply below_alloc | apply pw_below_drewN | apply below_drew1 | refine below_set ?_ GE571.out | refine below_set ?_ GE590.out | refine below_set ?_ GE602.out | refine below_set ?_ GE610.out) | exact HB.out)⟩
    ·rw [if_neg c13] at H
     exact absurd H (by simp)
   ·rw [if_neg c12] at H
    exact absurd H (by simp)
end Go.Proofs.YtaojbcplmdjfnaaDoor.Pr
