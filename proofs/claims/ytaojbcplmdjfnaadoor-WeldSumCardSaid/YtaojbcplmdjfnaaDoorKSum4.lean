/- Part 4 of the lemmas on which the card weldSum_card stands (its sentence and conditions stand in the last text). Conditions: as each lemma says. -/
import Derived.Test.YtaojbcplmdjfnaaDoorKSum3
import Derived.Lib.Strings
import Derived.Lib.SmallJoins
import Derived.Lib.SlBytesConst
import Derived.Outline
namespace Go.Proofs.YtaojbcplmdjfnaaDoor.PuMs
open Go.RowKit Go.Proofs.YtaojbcplmdjfnaaDoor.Pr Go.Proofs.YtaojbcplmdjfnaaDoor.Math Go.Proofs.YtaojbcplmdjfnaaDoor.PuSz Go.Proofs.YtaojbcplmdjfnaaDoorW.PrintWords Go.Proofs.YtaojbcplmdjfnaaDoorW.PrintLast Go.Proofs.YtaojbcplmdjfnaaDoorW.PrintMore
set_option linter.unusedVariables false
set_option linter.unusedSimpArgs false
theorem bo_byt (s : ByteArray) : Byt (bytesOf s) := by
  intro x hx
  unfold bytesOf at hx
  obtain ⟨b, _, rfl⟩ := List.mem_map.1 hx
  have := UInt8.toNat_lt b
  omega
theorem bo_str (l : List Int) (hb : Byt l) : bytesOf (strOfNums l) = l := by
  unfold bytesOf
  rw [strOfNums_data, List.map_map]
  conv => rhs; rw [← List.map_id l]
  apply List.map_congr_left
  intro x hx
  have := hb x hx
  simp [UInt8.toNat_ofNat']
  omega
theorem ba_ext {s t : ByteArray} (h : s.data.toList = t.data.toList) : s = t := by
  cases s; cases t
  simp only [ByteArray.mk.injEq]
  exact Array.toList_inj.1 h
theorem bo_inj {s t : ByteArray} (h : bytesOf s = bytesOf t) : s = t := by
  apply ba_ext
  unfold bytesOf at h
  exact (List.map_inj_right (fun x y e => UInt8.toNat_inj.1 (by omega))).1 h
theorem str_bo (s : ByteArray) : strOfNums (bytesOf s) = s := bo_inj (bo_str _ (bo_byt s))
theorem bo_append (s t : ByteArray) : bytesOf (s ++ t) = bytesOf s ++ bytesOf t := by unfold bytesOf; rw [ByteArray.data_append, Array.toList_append, List.map_append]
theorem bo_extract (s : ByteArray) (a b : Nat) : bytesOf (s.extract a b) = ((bytesOf s).drop a).take (b - a) := by unfold bytesOf; rw [Lib.extract_data, List.map_take, List.map_drop]
theorem tl_eq (s t : ByteArray) : s.toList = t.toList ↔ bytesOf s = bytesOf t := by
  rw [ByteArray.toList_eq, ByteArray.toList_eq]
  constructor
  · intro h; rw [ba_ext h]
  · intro h; rw [bo_inj h]
theorem tl_beq (s t : ByteArray) : (s.toList == t.toList) = decide (bytesOf s = bytesOf t) := by
  rw [Bool.eq_iff_iff, beq_iff_eq, decide_eq_true_eq, tl_eq]
theorem sz_str (l : List Int) : (strOfNums l).size = l.length := strOfNums_size l
theorem ex_head (s : ByteArray) : bytesOf (s.extract 0 (mn 3 (s.size : Int)).toNat) = (bytesOf s).take 3 := by
  rw [bo_extract, List.drop_zero, Nat.sub_zero]
  unfold mn
  split
  · rw [Int.toNat_natCast, List.take_of_length_le (by rw [bytesOf_length]; omega), List.take_of_length_le (by rw [bytesOf_length]; omega)]
  · rfl
theorem ex_tail (s : ByteArray) (a : Nat) : bytesOf (s.extract a s.size) = (bytesOf s).drop a := by
  rw [bo_extract, List.take_of_length_le (by rw [List.length_drop, bytesOf_length]; omega)]
theorem mx_tail (n : Nat) : (mx 0 ((n : Int) - 3)).toNat = n - 3 := by unfold mx; split <;> omega
theorem mx_le (n : Nat) : 0 ≤ mx 0 ((n : Int) - 3) ∧ mx 0 ((n : Int) - 3) ≤ n := by unfold mx; split <;> omega
theorem mn_le (n : Nat) : 0 ≤ mn 3 (n : Int) ∧ mn 3 (n : Int) ≤ n ∧ (mn 3 (n : Int)).toNat = min 3 n := by unfold mn; split <;> omega
theorem head_eq' (s : ByteArray) : weld_head.f s = some (strOfNums ((bytesOf s).take 3)) := by
  have h := mn_le s.size
  unfold weld_head.f
  rw [if_pos h.1, if_pos h.2.1]
  congr 1
  apply bo_inj
  rw [ex_head, bo_str _ ((bo_byt s).take 3)]
theorem rhead_eq (s : ByteArray) : galleyref05_head.f s = some (strOfNums ((bytesOf s).take 3)) := by
  have h := mn_le s.size
  unfold galleyref05_head.f
  rw [if_pos h.1, if_pos h.2.1]
  congr 1
  apply bo_inj
  rw [ex_head, bo_str _ ((bo_byt s).take 3)]
theorem tail_eq (s : ByteArray) (hs : s.size ≤ 4611686018427387904) : weld_tail.f s = some (strOfNums ((bytesOf s).drop (s.size - 3))) := by
  have h := mx_le s.size
  unfold weld_tail.f
  rw [w64 (by omega) (by omega), if_pos h.1, if_pos h.2]
  congr 1
  apply bo_inj
  rw [mx_tail, ex_tail, bo_str _ ((bo_byt s).drop _)]
theorem rtail_eq (s : ByteArray) (hs : s.size ≤ 4611686018427387904) : galleyref05_tail.f s = some (strOfNums ((bytesOf s).drop (s.size - 3))) := by
  have h := mx_le s.size
  unfold galleyref05_tail.f
  rw [w64 (by omega) (by omega), if_pos h.1, if_pos h.2]
  congr 1
  apply bo_inj
  rw [mx_tail, ex_tail, bo_str _ ((bo_byt s).drop _)]
abbrev Ms := Int × Int × Int × Int × ByteArray × ByteArray
def mOf (l : List Int) : Ms := ((l.length : Int), rn l, rn l + fr l, en 0 l, strOfNums (l.take 3), strOfNums (l.drop (l.length - 3)))
def m0 : Ms := (0, 0, 0, 0, ⟨#[]⟩, ⟨#[]⟩)
theorem mOf_nil : mOf [] = m0 := by
  unfold mOf m0
  rfl
theorem weldOf_eq (l : List Int) (hb : Byt l) (hl : l.length ≤ 268435456) : weld_Of.f l = some (mOf l) := by
  have h := mn_le l.length
  have h' := mx_le l.length
  unfold weld_Of.f
  rw [if_neg (by omega), weldSizes_eq l hb (by omega)]
  simp only [Option.bind_some]
  rw [if_pos h.1, if_pos h.2.1, w64 (by omega) (by omega), if_pos h'.1, if_pos h'.2, mx_tail, h.2.2]
  unfold mOf
  have e : l.take (min 3 l.length) = l.take 3 := by
    by_cases h3 : l.length ≤ 3
    · rw [List.take_of_length_le (by omega), List.take_of_length_le h3]
    · rw [show min 3 l.length = 3 by omega]
  rw [e]
theorem refOf_eq (k : Nat) (l : List Int) (hb : Byt l) (hl : l.length ≤ 268435456) (hk : 2 * l.length + 12 ≤ k) : galleyref05_Of.f k l = some (mOf l) := by
  unfold galleyref05_Of.f
  rw [if_neg (by omega), refSizes_eq k l hb (by omega) hk]
  simp only [Option.bind_some]
  rw [rhead_eq, rtail_eq _ (by rw [sz_str]; omega)]
  simp only [Option.bind_some]
  rw [bo_str l hb, sz_str]
  rfl
theorem ends_six (n : Nat) (hn : n ≤ 6) (H T : List Int) (hH : H.length = min 3 n) (hT : T.length = min 3 n) (he : H.drop (n - T.length) = T.take (H.length + T.length - n)) :
    (H ++ T.drop (H.length + T.length - n)).length = n ∧ (H ++ T.drop (H.length + T.length - n)).take 3 = H ∧ (H ++ T.drop (H.length + T.length - n)).drop (n - 3) = T := by
  have e1 : (H ++ T.drop (H.length + T.length - n)).length = n := by rw [List.length_append, List.length_drop]; omega
  refine ⟨e1, ?_, ?_⟩
  · by_cases h3 : 3 ≤ n
    · rw [show 3 = H.length by omega, List.take_left]
    · rw [List.take_of_length_le (by omega), List.drop_of_length_le (by omega), List.append_nil]
  · have e2 : H ++ T.drop (H.length + T.length - n) = H.take (n - T.length) ++ T := by
      have e0 : H.take (n - T.length) ++ T.take (H.length + T.length - n) = H := by rw [← he, List.take_append_drop]
      generalize H.length + T.length - n = o at *
      rw [show H ++ T.drop o = (H.take (n - T.length) ++ T.take o) ++ T.drop o by rw [e0], List.append_assoc, List.take_append_drop]
    rw [e2]
    have e3 : n - 3 = (H.take (n - T.length)).length := by rw [List.length_take]; omega
    rw [e3, List.drop_left]
theorem weldShort_eq (n r u e : Int) (h t : ByteArray) (hn : 0 ≤ n ∧ n ≤ 6) (hh : (h.size : Int) = min 3 n) (ht : (t.size : Int) = min 3 n) :
    weld_short.f n r u e h t = some (if (bytesOf h).drop (n.toNat - t.size) = (bytesOf t).take (h.size + t.size - n.toNat) then (strOfNums (bytesOf h ++ (bytesOf t).drop (h.size + t.size - n.toNat)), true) else (⟨#[]⟩, false)) := by
  have s1 : wrap64 ((h.size : Int) + (t.size : Int)) = ((h.size + t.size : Nat) : Int) := by rw [w64 (by omega) (by omega)]; omega
  have s2 : wrap64 (((h.size + t.size : Nat) : Int) - n) = ((h.size + t.size - n.toNat : Nat) : Int) := by rw [w64 (by omega) (by omega)]; omega
  have s3 : wrap64 ((h.size : Int) - ((h.size + t.size - n.toNat : Nat) : Int)) = ((n.toNat - t.size : Nat) : Int) := by rw [w64 (by omega) (by omega)]; omega
  unfold weld_short.f
  rw [s1, s2, s3, if_pos (by omega), if_pos (by omega), if_pos (by omega), if_pos (by omega)]
  simp only [Int.toNat_natCast, tl_eq]
  rw [ex_tail, bo_extract, List.drop_zero, Nat.sub_zero]
  by_cases hc : (bytesOf h).drop (n.toNat - t.size) = (bytesOf t).take (h.size + t.size - n.toNat)
  · rw [if_pos hc, if_pos hc, if_pos (by rw [ByteArray.size_extract]; omega)]
    congr 2
    apply bo_inj
    rw [bo_append, ex_tail, bo_str _ ((bo_byt h).append ((bo_byt t).drop _))]
  · rw [if_neg hc, if_neg hc]
theorem vldB_in (n r u e : Int) (H T : List Int) (hn : 0 ≤ n ∧ n ≤ 268435456) (hh : (H.length : Int) = min 3 n) (ht : (T.length : Int) = min 3 n) : vldB n r u e H T =
    if n ≤ 6 then decide (H.drop (n.toNat - T.length) = T.take (H.length + T.length - n.toNat)) && decide (r = rn (H ++ T.drop (H.length + T.length - n.toNat)) ∧ u = rn (H ++ T.drop (H.length + T.length - n.toNat)) + fr (H ++ T.drop (H.length + T.length - n.toNat)) ∧ e = en 0 (H ++ T.drop (H.length + T.length - n.toNat)))
    else decide (0 ≤ r ∧ r ≤ n ∧ r ≤ u ∧ u ≤ 2 * r ∧ r - (u - r) ≤ n - 4 * (u - r) ∧ n - 4 * (u - r) ≤ 3 * (r - (u - r)) ∧ 0 ≤ e ∧ e ≤ r) := by
  unfold vldB
  rw [if_neg (by omega)]
theorem weldValid_j0 (k : Nat) (n r u e : Int) (h t : ByteArray) (hn : 0 ≤ n ∧ n ≤ 268435456) (hh : (h.size : Int) = min 3 n) (ht : (t.size : Int) = min 3 n) (hr : -9223372036854775808 ≤ r ∧ r ≤ 9223372036854775807) (hu : -9223372036854775808 ≤ u ∧ u ≤ 9223372036854775807) :
    weld_Valid.j0 (k + 1) false n r u e h t n r u e = some (vldB n r u e (bytesOf h) (bytesOf t)) := by
  rw [vldB_in n r u e (bytesOf h) (bytesOf t) hn (by rw [bytesOf_length]; exact hh) (by rw [bytesOf_length]; exact ht)]
  simp only [weld_Valid.j0, Bool.false_eq_true, if_false]
  by_cases h6 : n ≤ 6
  · rw [if_pos h6, if_pos h6, weldShort_eq n r u e h t ⟨hn.1, h6⟩ hh ht]
    simp only [Option.bind_some, bytesOf_length]
    by_cases hc : (bytesOf h).drop (n.toNat - t.size) = (bytesOf t).take (h.size + t.size - n.toNat)
    · have hs := ends_six n.toNat (by omega) (bytesOf h) (bytesOf t) (by rw [bytesOf_length]; omega) (by rw [bytesOf_length]; omega) (by rw [bytesOf_length, bytesOf_length]; exact hc)
      rw [bytesOf_length, bytesOf_length] at hs
      have hB : Byt (bytesOf h ++ (bytesOf t).drop (h.size + t.size - n.toNat)) := (bo_byt h).append ((bo_byt t).drop _)
      simp only [if_pos hc, if_true]
      generalize bytesOf h ++ (bytesOf t).drop (h.size + t.size - n.toNat) = B at *
      rw [if_pos (by rw [sz_str]; omega), bo_str B hB, weldOf_eq B hB (by omega)]
      simp only [Option.bind_some, mOf, tl_beq, bo_str _ (hB.take 3), bo_str _ (hB.drop _)]
      rw [hs.1, hs.2.1, hs.2.2]
      congr 1
      have hnn : ((n.toNat : Nat) : Int) = n := by omega
      rw [hnn]
      rw [Bool.eq_iff_iff]
      simp
      exact fun _ _ _ => hc
    · simp only [if_neg hc, Bool.false_eq_true, if_false]
      rw [decide_eq_false hc, Bool.false_and]
  · rw [if_neg h6, if_neg h6]
    by_cases c1 : r ≥ 0
    · rw [if_pos c1]
      by_cases c2 : r ≤ n
      · rw [if_pos c2]
        by_cases c3 : u ≥ 0
        · rw [if_pos c3]
          by_cases c4 : u ≤ n
          · rw [if_pos c4, w64 (n := u - r) (by omega) (by omega), w64 (n := r - (u - r)) (by omega) (by omega), w64 (n := 4 * (u - r)) (by omega) (by omega), w64 (n := n - 4 * (u - r)) (by omega) (by omega), w64 (n := 3 * (r - (u - r))) (by omega) (by omega)]
            (repeat' split) <;> (congr 1; rw [Bool.eq_iff_iff]; simp only [decide_eq_true_eq, Bool.false_eq_true, false_iff]; omega)
          · rw [if_neg c4]; congr 1; symm; rw [decide_eq_false_iff_not]; omega
        · rw [if_neg c3]; congr 1; symm; rw [decide_eq_false_iff_not]; omega
      · rw [if_neg c2]; congr 1; symm; rw [decide_eq_false_iff_not]; omega
    · rw [if_neg c1]; congr 1; symm; rw [decide_eq_false_iff_not]; omega
theorem weldValid_eq (k : Nat) (n r u e : Int) (h t : ByteArray) (hr : -9223372036854775808 ≤ r ∧ r ≤ 9223372036854775807) (hu : -9223372036854775808 ≤ u ∧ u ≤ 9223372036854775807) :
    weld_Valid.f (k + 1) n r u e h t = some (vldB n r u e (bytesOf h) (bytesOf t)) := by
  have hF : ∀ x y z w, weld_Valid.j0 (k + 1) true n r u e h t x y z w = some false := fun x y z w => by simp [weld_Valid.j0]
  have hV : (n < 0 ∨ n > 268435456 ∨ (h.size : Int) ≠ min 3 n ∨ (t.size : Int) ≠ min 3 n) → vldB n r u e (bytesOf h) (bytesOf t) = false := fun c => by
    unfold vldB; rw [bytesOf_length, bytesOf_length, if_pos c]
  have hm : mn 3 n = min 3 n := by unfold mn; split <;> omega
  unfold weld_Valid.f
  rw [hm]
  by_cases h1 : n < 0
  · rw [if_pos h1, hF, hV (by omega)]
  · rw [if_neg h1]
    by_cases h2 : n > 268435456
    · rw [if_pos h2, hF, hV (by omega)]
    · rw [if_neg h2]
      by_cases h3 : (h.size : Int) = min 3 n
      · rw [if_pos h3]
        by_cases h4 : (t.size : Int) = min 3 n
        · rw [show ((t.size : Int) != min 3 n) = false by simp [h4]]
          exact weldValid_j0 k n r u e h t (by omega) h3 h4 hr hu
        · rw [show ((t.size : Int) != min 3 n) = true by simp [h4], hF, hV (by omega)]
      · rw [if_neg h3, hF, hV (by omega)]
theorem refAll_eq (n r u e : Int) (h t : ByteArray) (hn : 0 ≤ n ∧ n ≤ 6) (hh : (h.size : Int) = min 3 n) (ht : (t.size : Int) = min 3 n) :
    galleyref05_all.f n r u e h t = some (strOfNums (bytesOf h ++ (bytesOf t).drop (h.size + t.size - n.toNat)), decide ((bytesOf h).drop (n.toNat - t.size) = (bytesOf t).take (h.size + t.size - n.toNat))) := by
  unfold galleyref05_all.f
  by_cases h3 : n ≤ 3
  · have e1 : n.toNat - t.size = 0 := by omega
    have e2 : h.size + t.size - n.toNat = t.size := by omega
    rw [if_pos h3, tl_beq, e1, e2, List.drop_zero, List.drop_of_length_le (by rw [bytesOf_length]; omega), List.append_nil, str_bo, List.take_of_length_le (by rw [bytesOf_length]; omega)]
  · have s1 : wrap64 (6 - n) = ((h.size + t.size - n.toNat : Nat) : Int) := by rw [w64 (by omega) (by omega)]; omega
    have s2 : wrap64 (3 - ((h.size + t.size - n.toNat : Nat) : Int)) = ((n.toNat - t.size : Nat) : Int) := by rw [w64 (by omega) (by omega)]; omega
    rw [if_neg h3, s1, s2, if_pos (by omega), if_pos (by omega), if_pos (by rw [ByteArray.size_extract]; omega), if_pos (by omega), if_pos (by omega)]
    simp only [Int.toNat_natCast, tl_beq]
    rw [ex_tail, bo_extract, List.drop_zero, Nat.sub_zero]
    congr 2
    apply bo_inj
    rw [bo_append, ex_tail, bo_str _ ((bo_byt h).append ((bo_byt t).drop _))]
theorem refValid_j0 (k : Nat) (n r u e : Int) (h t : ByteArray) (hn : 0 ≤ n ∧ n ≤ 268435456) (hh : (h.size : Int) = min 3 n) (ht : (t.size : Int) = min 3 n) (hr : -9223372036854775808 ≤ r ∧ r ≤ 9223372036854775807) (hu : -9223372036854775808 ≤ u ∧ u ≤ 9223372036854775807) :
    galleyref05_Valid.j0 (k + 25) false n r u e h t n r u e = some (vldB n r u e (bytesOf h) (bytesOf t)) := by
  rw [vldB_in n r u e (bytesOf h) (bytesOf t) hn (by rw [bytesOf_length]; exact hh) (by rw [bytesOf_length]; exact ht)]
  simp only [galleyref05_Valid.j0, Bool.false_eq_true, if_false]
  by_cases h6 : n ≤ 6
  · rw [if_pos h6, if_pos h6, refAll_eq n r u e h t ⟨hn.1, h6⟩ hh ht]
    simp only [Option.bind_some, bytesOf_length]
    by_cases hc : (bytesOf h).drop (n.toNat - t.size) = (bytesOf t).take (h.size + t.size - n.toNat)
    · have hs := ends_six n.toNat (by omega) (bytesOf h) (bytesOf t) (by rw [bytesOf_length]; omega) (by rw [bytesOf_length]; omega) (by rw [bytesOf_length, bytesOf_length]; exact hc)
      rw [bytesOf_length, bytesOf_length] at hs
      have hB : Byt (bytesOf h ++ (bytesOf t).drop (h.size + t.size - n.toNat)) := (bo_byt h).append ((bo_byt t).drop _)
      rw [decide_eq_true hc]
      simp only [if_true]
      generalize bytesOf h ++ (bytesOf t).drop (h.size + t.size - n.toNat) = B at *
      rw [if_pos (by rw [sz_str]; omega), bo_str B hB, refSizes_eq (k + 24) B hB (by omega) (by omega)]
      simp only [Option.bind_some]
      rw [hs.1]
      congr 1
      have hnn : ((n.toNat : Nat) : Int) = n := by omega
      rw [hnn]
      rw [Bool.eq_iff_iff]
      simp
      omega
    · rw [decide_eq_false hc]
      simp only [Bool.false_eq_true, if_false, Bool.false_and]
  · rw [if_neg h6, if_neg h6]
    by_cases c1 : r < 0
    · rw [if_pos c1]; congr 1; symm; rw [decide_eq_false_iff_not]; omega
    · rw [if_neg c1]
      by_cases c2 : r > n
      · rw [if_pos c2]; congr 1; symm; rw [decide_eq_false_iff_not]; omega
      · rw [if_neg c2]
        by_cases c3 : u < r
        · rw [if_pos c3]; congr 1; symm; rw [decide_eq_false_iff_not]; omega
        · rw [if_neg c3, w64 (n := 2 * r) (by omega) (by omega)]
          by_cases c4 : u > 2 * r
          · rw [if_pos c4]; congr 1; symm; rw [decide_eq_false_iff_not]; omega
          · rw [if_neg c4, w64 (n := u - r) (by omega) (by omega), w64 (n := r - (u - r)) (by omega) (by omega), w64 (n := 4 * (u - r)) (by omega) (by omega), w64 (n := n - 4 * (u - r)) (by omega) (by omega), w64 (n := 3 * (r - (u - r))) (by omega) (by omega)]
            (repeat' split) <;> (congr 1; rw [Bool.eq_iff_iff]; simp only [decide_eq_true_eq, Bool.false_eq_true, false_iff]; omega)
theorem refValid_eq (k : Nat) (n r u e : Int) (h t : ByteArray) (hr : -9223372036854775808 ≤ r ∧ r ≤ 9223372036854775807) (hu : -9223372036854775808 ≤ u ∧ u ≤ 9223372036854775807) :
    galleyref05_Valid.f (k + 25) n r u e h t = some (vldB n r u e (bytesOf h) (bytesOf t)) := by
  have hF : ∀ x y z w, galleyref05_Valid.j0 (k + 25) true n r u e h t x y z w = some false := fun x y z w => by simp [galleyref05_Valid.j0]
  have hV : (n < 0 ∨ n > 268435456 ∨ (h.size : Int) ≠ min 3 n ∨ (t.size : Int) ≠ min 3 n) → vldB n r u e (bytesOf h) (bytesOf t) = false := fun c => by
    unfold vldB; rw [bytesOf_length, bytesOf_length, if_pos c]
  have hm : mn 3 n = min 3 n := by unfold mn; split <;> omega
  unfold galleyref05_Valid.f
  rw [hm]
  by_cases h1 : n < 0
  · rw [if_pos h1, hF, hV (by omega)]
  · rw [if_neg h1]
    by_cases h2 : n > 268435456
    · rw [if_pos h2, hF, hV (by omega)]
    · rw [if_neg h2]
      by_cases h3 : (h.size : Int) = min 3 n
      · rw [if_pos h3]
        by_cases h4 : (t.size : Int) = min 3 n
        · rw [show ((t.size : Int) != min 3 n) = false by simp [h4]]
          exact refValid_j0 k n r u e h t (by omega) h3 h4 hr hu
        · rw [show ((t.size : Int) != min 3 n) = true by simp [h4], hF, hV (by omega)]
      · rw [if_neg h3, hF, hV (by omega)]
end Go.Proofs.YtaojbcplmdjfnaaDoor.PuMs

namespace Go.Proofs.YtaojbcplmdjfnaaDoor.Ev
open Go.RowKit Go.Proofs.YtaojbcplmdjfnaaDoor.Pr Go.Proofs.YtaojbcplmdjfnaaDoor.Math Go.Proofs.YtaojbcplmdjfnaaDoorW.PrintWords Go.Proofs.YtaojbcplmdjfnaaDoorW.PrintLast
set_option linter.unusedVariables false
set_option linter.unusedSimpArgs false
theorem o_Class (b : Int) (h : 0 ≤ b ∧ b ≤ 255) : octet_Class.f b = some (cls b) := by unfold octet_Class.f; rw [if_pos h]; rfl
theorem o_Need (b : Int) (h : 0 ≤ b ∧ b ≤ 255) : octet_Need.f b = some (need b) := by unfold octet_Need.f; rw [if_pos h]; rfl
theorem o_second (a : Int) (h : 0 ≤ a ∧ a ≤ 255) : octet_second.f a = some (if a = 224 then (160, 191) else if a = 237 then (128, 159) else if a = 240 then (144, 191) else if a = 244 then (128, 143) else if need a > 1 then (128, 191) else (1, 0)) := by
  unfold octet_second.f
  rw [o_Need a h]
  simp only [Option.bind_some]
  (repeat' split) <;> rfl
theorem o_Second (a b : Int) (h : 0 ≤ a ∧ a ≤ 255) : octet_Second.f a b = some (sec a b) := by
  unfold octet_Second.f
  rw [o_second a h]
  simp only [Option.bind_some]
  unfold sec
  (repeat' split) <;> simp_all <;> omega
theorem o_Whole (k : Nat) (l : List Int) (h : Byt l) : octet_Whole.f (k + 9) l = some (whole l) := by
  unfold octet_Whole.f
  match l, h with
  | [], _ => simp [octet_Whole.j0, whole]
  | [x0], h =>
    have b0 := h x0 (by simp)
    simp only [rd, List.length_cons, List.length_nil, Int.toNat_zero, List.getD_cons_zero]
    rw [if_neg (by simp), if_pos (by simp), o_Need x0 b0]
    simp only [Option.bind_some, octet_Whole.j0, drop1, whole]
    by_cases hn : need x0 = 1
    · simp [hn, octet_Whole.l0]
    · simp [hn]
  | [x0, x1], h =>
    have b0 := h x0 (by simp)
    have b1 := h x1 (by simp)
    simp only [rd, List.length_cons, List.length_nil, Int.toNat_zero, List.getD_cons_zero]
    rw [if_neg (by simp), if_pos (by simp), o_Need x0 b0]
    simp only [Option.bind_some, octet_Whole.j0, drop1, whole]
    by_cases hn : need x0 = 2
    · have st := @sec_tail x0 x1
      simp [hn, octet_Whole.l0, rd, o_Second x0 x1 b0, o_Class x1 b1, cls_two x1 b1.1 b1.2, wrap64_in', tl]
      (repeat' split) <;> simp_all
    · simp [hn]
  | [x0, x1, x2], h =>
    have b0 := h x0 (by simp)
    have b1 := h x1 (by simp)
    have b2 := h x2 (by simp)
    simp only [rd, List.length_cons, List.length_nil, Int.toNat_zero, List.getD_cons_zero]
    rw [if_neg (by simp), if_pos (by simp), o_Need x0 b0]
    simp only [Option.bind_some, octet_Whole.j0, drop1, whole]
    by_cases hn : need x0 = 3
    · have st := @sec_tail x0 x1
      simp [hn, octet_Whole.l0, rd, o_Second x0 x1 b0, o_Class x1 b1, cls_two x1 b1.1 b1.2, o_Class x2 b2, cls_two x2 b2.1 b2.2, wrap64_in', tl]
      (repeat' split) <;> simp_all
    · simp [hn]
  | [x0, x1, x2, x3], h =>
    have b0 := h x0 (by simp)
    have b1 := h x1 (by simp)
    have b2 := h x2 (by simp)
    have b3 := h x3 (by simp)
    simp only [rd, List.length_cons, List.length_nil, Int.toNat_zero, List.getD_cons_zero]
    rw [if_neg (by simp), if_pos (by simp), o_Need x0 b0]
    simp only [Option.bind_some, octet_Whole.j0, drop1, whole]
    by_cases hn : need x0 = 4
    · have st := @sec_tail x0 x1
      simp [hn, octet_Whole.l0, rd, o_Second x0 x1 b0, o_Class x1 b1, cls_two x1 b1.1 b1.2, o_Class x2 b2, cls_two x2 b2.1 b2.2, o_Class x3 b3, cls_two x3 b3.1 b3.2, wrap64_in', tl]
      cases hs : sec x0 x1 <;> by_cases h2 : 128 ≤ x2 <;> by_cases h2' : x2 ≤ 191 <;> by_cases h3 : 128 ≤ x3 <;> by_cases h3' : x3 ≤ 191 <;> simp_all <;> split <;> simp_all <;> omega
    · simp [hn]
  | x0 :: x1 :: x2 :: x3 :: x4 :: r, h =>
    have b0 := h x0 (by simp)
    have hl := need_le x0
    simp only [rd, List.length_cons, Int.toNat_zero, List.getD_cons_zero]
    rw [if_neg (by omega), if_pos (by omega), o_Need x0 b0]
    simp only [Option.bind_some, octet_Whole.j0, whole]
    rw [if_pos (by rw [bne_iff_ne]; omega)]
theorem u8_and127 {x : Int} (h₀ : 0 ≤ x) (h₁ : x < 256) : bits .and .u8 x 127 = x % 128 := bits_mask .u8 8 (by decide) wraps_u8 7 (by decide) x h₀ h₁
theorem head_eq {x m n : Int} (h : bits .and .u8 x m = n) (h0 : 0 ≤ n) (h1 : n < 256) : headV x m = n := by unfold headV; rw [h]; exact wrap32_in' (by omega) (by omega)
theorem step_eq {z c : Int} (h0 : 0 ≤ z) (h1 : z < 32768) (hc : 0 ≤ c ∧ c ≤ 255) : stepV z c = z * 64 + c % 64 := by
  unfold stepV
  rw [u8_and63 _ hc.1 (by omega), wrap32_in' (by omega) (by omega), wrap32_in' (by omega) (by omega), i32_or6 _ _ (by omega) (by omega) (by omega) (by omega) (by omega)]
theorem valL_eq (l : List Int) (h : Byt l) (hw : whole l = true) : valL l = some (num l) := by
  match l, h, hw with
  | [], _, hw => simp [whole] at hw
  | [x0], h, hw =>
    have b0 := h x0 (by simp)
    have hn : need x0 = 1 := by simpa [whole] using hw
    have : x0 < 128 := by unfold need at hn; (repeat' split at hn) <;> omega
    simp only [valL, num]
    rw [head_eq (u8_and127 b0.1 (by omega)) (by omega) (by omega)]
    congr 1
    omega
  | [x0, x1], h, hw =>
    have b0 := h x0 (by simp)
    have b1 := h x1 (by simp)
    simp only [valL, num]
    rw [head_eq (u8_and31 _ b0.1 (by omega)) (by omega) (by omega), step_eq (by omega) (by omega) b1]
  | [x0, x1, x2], h, hw =>
    have b0 := h x0 (by simp)
    have b1 := h x1 (by simp)
    have b2 := h x2 (by simp)
    simp only [valL, num]
    rw [head_eq (u8_and15 _ b0.1 (by omega)) (by omega) (by omega), step_eq (by omega) (by omega) b1, step_eq (by omega) (by omega) b2]
  | [x0, x1, x2, x3], h, hw =>
    have b0 := h x0 (by simp)
    have b1 := h x1 (by simp)
    have b2 := h x2 (by simp)
    have b3 := h x3 (by simp)
    simp only [valL, num]
    rw [head_eq (u8_and7 _ b0.1 (by omega)) (by omega) (by omega), step_eq (by omega) (by omega) b1, step_eq (by omega) (by omega) b2, step_eq (by omega) (by omega) b3]
  | _ :: _ :: _ :: _ :: _ :: _, _, hw => simp [whole] at hw
theorem o_Value (k : Nat) (l : List Int) (h : Byt l) : octet_Value.f (k + 9) l = some (val l) := by
  unfold octet_Value.f val
  rw [o_Whole k l h]
  simp only [Option.bind_some]
  split
  · rename_i hw
    exact valL_eq l h hw
  · rfl
theorem num_range (l : List Int) (h : Byt l) (hw : whole l = true) : 0 ≤ num l ∧ num l < 2097152 := by
  match l, h, hw with
  | [], _, hw => simp [whole] at hw
  | [x0], h, hw => have b0 := h x0 (by simp); simp only [num]; omega
  | [x0, x1], h, hw => simp only [num]; omega
  | [x0, x1, x2], h, hw => simp only [num]; omega
  | [x0, x1, x2, x3], h, hw => simp only [num]; omega
  | _ :: _ :: _ :: _ :: _ :: _, _, hw => simp [whole] at hw
theorem val_range (l : List Int) (h : Byt l) : -1 ≤ val l ∧ val l < 2097152 := by
  unfold val
  split
  · rename_i hw
    have := num_range l h hw
    omega
  · omega
theorem whole_iff (l : List Int) (h : Byt l) : whole l = true ↔ l ≠ [] ∧ lg l = l.length := by
  match l, h with
  | [], _ => simp [whole]
  | [x0], h =>
    have b0 := h x0 (by simp)
    simp only [whole, lg, List.length_cons, List.length_nil, decide_eq_true_eq, ne_eq, reduceCtorEq, not_false_eq_true, true_and]
    have := lgT_cases x0 (List.getD [] 0 (-1)) (List.getD [] 1 (-1)) (List.getD [] 2 (-1))
    constructor
    · intro hn
      unfold lgT; rw [if_pos (by unfold need at hn; (repeat' split at hn) <;> omega)]
    · intro hn
      rw [need_1 (by omega)]
  | [x0, x1], h =>
    simp only [whole, lg, List.length_cons, List.length_nil, Bool.and_eq_true, decide_eq_true_eq, ne_eq, reduceCtorEq, not_false_eq_true, true_and, List.getD_cons_zero, List.getD_cons_succ, sec_iff]
    have := lgT_cases x0 x1 (List.getD [] 0 (-1)) (List.getD [] 1 (-1))
    constructor
    · rintro ⟨hn, h1, h2⟩
      have hx : 194 ≤ x0 ∧ x0 < 224 := by unfold need at hn; (repeat' split at hn) <;> omega
      unfold lgT; rw [if_neg (by omega), if_pos (by omega)]
    · intro hn
      rw [need_2 (by omega) (by omega)]
      omega
  | [x0, x1, x2], h =>
    simp only [whole, lg, List.length_cons, List.length_nil, Bool.and_eq_true, decide_eq_true_eq, ne_eq, reduceCtorEq, not_false_eq_true, true_and, List.getD_cons_zero, List.getD_cons_succ, sec_iff, tl_iff]
    constructor
    · rintro ⟨hn, ⟨h1, h2⟩, h3⟩
      have hx : 224 ≤ x0 ∧ x0 < 240 := by unfold need at hn; (repeat' split at hn) <;> omega
      unfold lgT; rw [if_neg (by omega), if_neg (by omega), if_pos (by omega)]
    · intro hn
      unfold lgT at hn
      split at hn
      · omega
      · split at hn
        · omega
        · split at hn
          · rw [need_3 (by omega) (by omega)]; omega
          · split at hn <;> omega
  | [x0, x1, x2, x3], h =>
    simp only [whole, lg, List.length_cons, List.length_nil, Bool.and_eq_true, decide_eq_true_eq, ne_eq, reduceCtorEq, not_false_eq_true, true_and, List.getD_cons_zero, List.getD_cons_succ, sec_iff, tl_iff]
    constructor
    · rintro ⟨hn, ⟨h1, h2⟩, h3, h4⟩
      have hx : 240 ≤ x0 ∧ x0 < 245 := by unfold need at hn; (repeat' split at hn) <;> omega
      unfold lgT; rw [if_neg (by omega), if_neg (by omega), if_neg (by omega), if_pos (by omega)]
    · intro hn
      unfold lgT at hn
      split at hn
      · omega
      · split at hn
        · omega
        · split at hn
          · omega
          · split at hn
            · rw [need_4 (by omega) (by omega)]; omega
            · omega
  | x0 :: x1 :: x2 :: x3 :: x4 :: r, _ =>
    simp only [whole, Bool.false_eq_true, false_iff]
    rintro ⟨_, hn⟩
    have := lg_le (x0 :: x1 :: x2 :: x3 :: x4 :: r)
    rw [hn] at this
    simp at this
theorem val_lg (l : List Int) (h : Byt l) (hn : l ≠ []) : (0 ≤ val l ↔ lg l = l.length) ∧ (lg l = l.length → (val l > 65535 ↔ lg l = 4)) := by
  have hw := whole_iff l h
  unfold val
  by_cases hwl : whole l = true
  · rw [if_pos hwl]
    have hl := (hw.1 hwl).2
    obtain ⟨x, t, rfl⟩ : ∃ x t, l = x :: t := by cases l with | nil => exact absurd rfl hn | cons x t => exact ⟨x, t, rfl⟩
    have hr := ru_facts x t (h x (by simp)).1
    have e : ru (x :: t) = num (x :: t) := by
      unfold ru
      rw [if_neg (by rw [hl]; simp), hl, List.take_length]
    rw [e] at hr
    exact ⟨⟨fun _ => hl, fun _ => hr.2.2.2.1⟩, fun _ => hr.2.2.1⟩
  · rw [if_neg hwl]
    have hne : ¬ lg l = l.length := fun c => hwl (hw.2 ⟨hn, c⟩)
    exact ⟨⟨fun c => by omega, fun c => absurd c hne⟩, fun c => absurd c hne⟩
end Go.Proofs.YtaojbcplmdjfnaaDoor.Ev

namespace Go.Proofs.YtaojbcplmdjfnaaDoor.Pr
open Go.RowKit Go.Proofs.YtaojbcplmdjfnaaDoorW.PrintWords Go.Proofs.YtaojbcplmdjfnaaDoorW.PrintLast Go.Proofs.YtaojbcplmdjfnaaDoorW.PrintMore
attribute [local go_sem] max2_int min2_int max_two min_two max_three min_three max_four min_four   -- for this text's walks alone
set_option linter.unusedVariables false
set_option linter.unusedSimpArgs false
mutual
def galleyref05_seam.l0 : Nat → Int → Int → Int → Int → Int → ByteArray → ByteArray → Int → Int → Int → Int → ByteArray → ByteArray → Int → Int → Int → Int → Option (Int × Int × Int × Int)
 | 0, _, _, _, _, _, _, _, _, _, _, _, _, _, _, _, _, _ => none
 | k + 1, x6, x307000, x307001, x307002, x307003, x307004, x307005, x308000, x308001, x308002, x308003, x308004, x308005, x310000, x310001, x310002, x310003 => if x6 ≤ (x307005.size : Int) then (galleyref05_seam.l1 k x6 1 x307000 x307001 x307002 x307003 x307004 x307005 x308000 x308001 x308002 x308003 x308004 x308005 x310000 x310001 x310002 x310003) else (if (x307005.size : Int) > 0 then (if (x308004.size : Int) > 0 then (if 0 ≤ (wrap64 ((x307005.size : Int) - 1)) then (if (wrap64 ((x307005.size : Int) - 1)) < (x307005.size : Int) then (if (bt x307005 (wrap64 ((x307005.size : Int) - 1))) = 13 then (if 0 < (x308004.size : Int) then (if (bt x308004 0) = 10 then (some (x310000, x310001, x310002, 1)) else (some (x310000, x310001, x310002, x310003))) else (none)) else (some (x310000, x310001, x310002, x310003))) else (none)) else (none)) else (some (x310000, x310001, x310002, x310003))) else (some (x310000, x310001, x310002, x310003)))
def galleyref05_seam.l1 : Nat → Int → Int → Int → Int → Int → Int → ByteArray → ByteArray → Int → Int → Int → Int → ByteArray → ByteArray → Int → Int → Int → Int → Option (Int × Int × Int × Int)
 | 0, _, _, _, _, _, _, _, _, _, _, _, _, _, _, _, _, _, _ => none
 | k + 1, x6, x7, x307000, x307001, x307002, x307003, x307004, x307005, x308000, x308001, x308002, x308003, x308004, x308005, x310000, x310001, x310002, x310003 => if x7 ≤ (x308004.size : Int) then (if 0 ≤ (wrap64 ((x307005.size : Int) - x6)) then (if (wrap64 ((x307005.size : Int) - x6)) ≤ (x307005.size : Int) then (if 0 ≤ x7 then (if (x307005.extract ((wrap64 ((x307005.size : Int) - x6)) : Int).toNat x307005.size).size + (x308004.extract 0 (x7 : Int).toNat).size ≤ 9223372036854775807 then (if ((x307005.extract ((wrap64 ((x307005.size : Int) - x6)) : Int).toNat x307005.size) ++ (x308004.extract 0 (x7 : Int).toNat)).size ≤ 9223372036854775807 then ((some (bytesOf ((x307005.extract ((wrap64 ((x307005.size : Int) - x6)) : Int).toNat x307005.size) ++ (x308004.extract 0 (x7 : Int).toNat)) : List Int)).bind fun y310 => ((galleyref02_Long.f k y310 0).bind fun t313 => (if t313 = (wrap64 (x6 + x7)) then ((galleyref02_Of.f k y310 0).bind fun bt314 => ((galleyref05_units.f bt314.1 bt314.2.1 bt314.2.2).bind fun t317 => (galleyref05_seam.l1 k x6 (wrap64 (x7 + 1)) x307000 x307001 x307002 x307003 x307004 x307005 x308000 x308001 x308002 x308003 x308004 x308005 x310000 (wrap64 ((wrap64 (x6 + x7)) - 1)) (wrap64 ((wrap64 (x6 + x7)) - t317)) x310003))) else (galleyref05_seam.l1 k x6 (wrap64 (x7 + 1)) x307000 x307001 x307002 x307003 x307004 x307005 x308000 x308001 x308002 x308003 x308004 x308005 x310000 x310001 x310002 x310003)))) else (none)) else (none)) else (none)) else (none)) else (none)) else (galleyref05_seam.l0 k (wrap64 (x6 + 1)) x307000 x307001 x307002 x307003 x307004 x307005 x308000 x308001 x308002 x308003 x308004 x308005 x310000 x310001 x310002 x310003)
end
def galleyref05_seam.f (k : Nat) (a0_0 : Int) (a0_1 : Int) (a0_2 : Int) (a0_3 : Int) (a0_4 : ByteArray) (a0_5 : ByteArray) (a1_0 : Int) (a1_1 : Int) (a1_2 : Int) (a1_3 : Int) (a1_4 : ByteArray) (a1_5 : ByteArray) : Option (Int × Int × Int × Int) := galleyref05_seam.l0 k 1 a0_0 a0_1 a0_2 a0_3 a0_4 a0_5 a1_0 a1_1 a1_2 a1_3 a1_4 a1_5 0 0 0 0
def galleyref05_seam.T8 : Bool × List (List Nat × List Nat) := (true, [([], []), ([0], [0]), ([], []), ([2], [2]), ([3], [3]), ([], []), ([4, 5], [4, 5]), ([1, 6], [1, 6]), ([], []), ([8], [8]), ([], []), ([9, 10], [9, 10]), ([7, 11], [7, 11]), ([12], [12]), ([13, 0, 1, 2, 3, 4, 5, 6, 7, 8, 9, 10, 11, 12, 13], [13])])
def galleyref05_seam.B8 : List Nat := [0, 1, 0, 4, 12, 0, 60, 127, 0, 256, 0, 1792, 4095, 8191, 16383]
theorem galleyref05_seam.tab8 : rtab .any (opsOf Tryd.f33 8) = galleyref05_seam.T8 := by kernel_rfl
theorem galleyref05_seam.bits8 : waitsOk galleyref05_seam.T8.2 galleyref05_seam.B8 = true := by kernel_rfl
set_option maxHeartbeats 8000000 in
set_option maxRecDepth 100000 in
theorem galleyref05_seam.calls (k : Nat) (a0_0 : Int) (a0_1 : Int) (a0_2 : Int) (a0_3 : Int) (a0_4 : ByteArray) (a0_5 : ByteArray) (a1_0 : Int) (a1_1 : Int) (a1_2 : Int) (a1_3 : Int) (a1_4 : ByteArray) (a1_5 : ByteArray) (r1 : Int) (r2 : Int) (r3 : Int) (r4 : Int) (w : World) (h : galleyref05_seam.f k a0_0 a0_1 a0_2 a0_3 a0_4 a0_5 a1_0 a1_1 a1_2 a1_3 a1_4 a1_5 = some (r1, r2, r3, r4)) :
  Calls Tryd.prog 33 #[.agg #[.int .i64 a0_0, .int .i64 a0_1, .int .i64 a0_2, .int .i64 a0_3, .string a0_4, .string a0_5], .agg #[.int .i64 a1_0, .int .i64 a1_1, .int .i64 a1_2, .int .i64 a1_3, .string a1_4, .string a1_5]] w fun e w' => e = .returned (.agg #[.int .i64 r1, .int .i64 r2, .int .i64 r3, .int .i64 r4]) ∧ Below w.heap.size w w' := by
 have hu26 := Tryd.underlying26
 have hu24 := Tryd.underlying24
 have HB := Aside0.mk (Below.refl w.heap.size w)
 have H : (galleyref05_seam.l0 k 1 a0_0 a0_1 a0_2 a0_3 a0_4 a0_5 a1_0 a1_1 a1_2 a1_3 a1_4 a1_5 0 0 0 0) = some (r1, r2, r3, r4) := h
 clear h; have H' := Aside0.mk H; clear H
 go_enter Tryd.func33, Tryd.ntmps33
 go_wp2_with (first | ((with_reducible refine gate_dst (N := 2) rfl ?_); (try (refine gate_guard (by rfl) ?_; dsimp only)); refine box_event ?hg (N := 2) ?hd (cs := #[.int .i64 a0_0, .int .i64 a0_1, .int .i64 a0_2, .int .i64 a0_3, .string a0_4, .string a0_5]) (t := 26) ?hr ?_; (case hd => rfl); (case hg => rfl); (case hr => first | (go_simp; done) | (go_simp; rfl)); intro gb306 hg w3 hbox hb; have BK306 := Aside0.mk (hbox); have GW306 := Aside0.mk ((by rw [hg]; exact (below_size (bl HB.out)) : w.heap.size ≤ gb306)); have GE306 := GW306; replace HB := Aside0.mk (below_step (bl HB.out) hb); clear hb hbox hg) | ((with_reducible refine gate_dst (N := 3) rfl ?_); (try (refine gate_guard (by rfl) ?_; dsimp only)); refine box_event ?hg (N := 3) ?hd (cs := #[.int .i64 a1_0, .int .i64 a1_1, .int .i64 a1_2, .int .i64 a1_3, .string a1_4, .string a1_5]) (t := 26) ?hr ?_; (case hd => rfl); (case hg => rfl); (case hr => first | (go_simp; done) | (go_simp; rfl)); intro gb307 hg w4 hbox hb; have BK307 := Aside0.mk (hbox); have GW307 := Aside0.mk ((by rw [hg]; exact (below_size (by repeat (first | (with_reducible first | exact HB.out | apply below_alloc | apply pw_below_drewN | apply below_drew1 | refine below_set ?_ GE306.out) | exact HB.out))) : w.heap.size ≤ gb307)); have GE307 := GW307; replace HB := Aside0.mk (below_step (by repeat (first | (with_reducible first | exact HB.out | apply below_alloc | apply pw_below_drewN | apply below_drew1 | refine below_set ?_ GE306.out) | exact HB.out)) hb); obtain ⟨NB306_307, NB307_306⟩ := nbp hg (pl BK306.out); replace BK306 := Aside0.mk (blk_below (pl BK306.out) hb); clear hb hbox hg) | ((with_reducible refine gate_dst (N := 4) rfl ?_); (try (refine gate_guard (by rfl) ?_; dsimp only)); refine box_event ?hg (N := 4) ?hd (cs := #[.int .i64 0, .int .i64 0, .int .i64 0, .int .i64 0]) (t := 24) ?hr ?_; (case hd => rfl); (case hg => rfl); (case hr => first | (go_simp; done) | (go_simp; rfl)); intro gb308 hg w5 hbox hb; have BK308 := Aside0.mk (hbox); have GW308 := Aside0.mk ((by rw [hg]; exact (below_size (by repeat (first | (with_reducible first | exact HB.out | apply below_alloc | apply pw_below_drewN | apply below_drew1 | refine below_set ?_ GE306.out | refine below_set ?_ GE307.out) | exact HB.out))) : w.heap.size ≤ gb308)); have GE308 := GW308; replace HB := Aside0.mk (below_step (by repeat (first | (with_reducible first | exact HB.out | apply below_alloc | apply pw_below_drewN | apply below_drew1 | refine below_set ?_ GE306.out | refine below_set ?_ GE307.out) | exact HB.out)) hb); obtain ⟨NB306_308, NB308_306⟩ := nbp hg (pl BK306.out); replace BK306 := Aside0.mk (blk_below (pl BK306.out) hb); obtain ⟨NB307_308, NB308_307⟩ := nbp hg (pl BK307.out); replace BK307 := Aside0.mk (blk_below (pl BK307.out) hb); clear hb hbox hg) | ((with_reducible refine gate_dst (N := 5) rfl ?_); (try (refine gate_guard (by rfl) ?_; dsimp only)); refine box_event ?hg (N := 5) ?hd (cs := #[.int .i64 0, .int .i64 0, .int .i64 0, .int .i64 0]) (t := 24) ?hr ?_; (case hd => rfl); (case hg => rfl); (case hr => first | (go_simp; done) | (go_simp; rfl)); intro gb309 hg w6 hbox hb; have BK309 := Aside0.mk (hbox); have GW309 := Aside0.mk ((by rw [hg]; exact (below_size (by repeat (first | (with_reducible first | exact HB.out | apply below_alloc | apply pw_below_drewN | apply below_drew1 | refine below_set ?_ GE306.out | refine below_set ?_ GE307.out | refine below_set ?_ GE308.out) | exact HB.out))) : w.heap.size ≤ gb309)); have GE309 := GW309; replace HB := Aside0.mk (below_step (by repeat (first | (with_reducible first | exact HB.out | apply below_alloc | apply pw_below_drewN | apply below_drew1 | refine below_set ?_ GE306.out | refine below_set ?_ GE307.out | refine below_set ?_ GE308.out) | exact HB.out)) hb); obtain ⟨NB306_309, NB309_306⟩ := nbp hg (pl BK306.out); replace BK306 := Aside0.mk (blk_below (pl BK306.out) hb); obtain ⟨NB307_309, NB309_307⟩ := nbp hg (pl BK307.out); replace BK307 := Aside0.mk (blk_below (pl BK307.out) hb); obtain ⟨NB308_309, NB309_308⟩ := nbp hg (pl BK308.out); replace BK308 := Aside0.mk (blk_below (pl BK308.out) hb); clear hb hbox hg))
 go_loopg [6] k (fun kq v6 w' => ∃ (x6_1 : Int) (x310001_1 : Int) (x310002_1 : Int), v6 = .int .i64 x6_1 ∧ Aside0 (galleyref05_seam.l0 kq x6_1 a0_0 a0_1 a0_2 a0_3 a0_4 a0_5 a1_0 a1_1 a1_2 a1_3 a1_4 a1_5 0 x310001_1 x310002_1 0 = some (r1, r2, r3, r4)) ∧ Aside0 (kq ≤ k) ∧ Aside0 (w'.heap[gb306]? = some (.cells #[.int .i64 a0_0, .int .i64 a0_1, .int .i64 a0_2, .int .i64 a0_3, .string a0_4, .string a0_5] 26 (0, 0))) ∧ Aside0 (w'.heap[gb307]? = some (.cells #[.int .i64 a1_0, .int .i64 a1_1, .int .i64 a1_2, .int .i64 a1_3, .string a1_4, .string a1_5] 26 (0, 0))) ∧ Aside0 (w'.heap[gb308]? = some (.cells #[.int .i64 0, .int .i64 0, .int .i64 0, .int .i64 0] 24 (0, 0))) ∧ Aside0 (w'.heap[gb309]? = some (.cells #[.int .i64 0, .int .i64 x310001_1, .int .i64 x310002_1, .int .i64 0] 24 (0, 0))) ∧ Aside0 (Below w.heap.size w w'))
 case atStart => exact ⟨(1), (0), (0), (by first | rfl | (simp; done) | (simp [*]; done)), H', ⟨Nat.le_refl _⟩, ⟨pl BK306.out⟩, ⟨pl BK307.out⟩, ⟨pl BK308.out⟩, ⟨pl BK309.out⟩, ⟨by repeat (first | (with_reducible first | exact HB.out | apply below_alloc | apply pw_below_drewN | apply below_drew1 | refine below_set ?_ GE306.out | refine below_set ?_ GE307.out | refine below_set ?_ GE308.out | refine below_set ?_ GE309.out) | exact HB.out)⟩⟩
 case round =>
  clear H'
  (try clear p2); (try clear c3)
  obtain ⟨x6_1, x310001_1, x310002_1, rfl, HA, HK1, BK306, BK307, BK308, BK309, HB⟩ := hrel
  cases gk with
  | zero => exact absurd HA.out (by simp [galleyref05_seam.l0])
  | succ k1 =>
   have H := HA.out; clear HA
   simp only [galleyref05_seam.l0] at H
   by_cases c7 : x6_1 ≤ (a0_5.size : Int)
   ·rw [if_pos c7] at H
    have c7b0 : decide (x6_1 ≤ (a0_5.size : Int)) = true := decide_eq_true c7
    clear c7; have H' := Aside0.mk H; clear H; have hnb8 := NB306_307.out; have hnc8 := NB307_306.out; have hnb9 := NB306_308.out; have hnc9 := NB308_306.out; have hnb10 := NB306_309.out; have hnc10 := NB309_306.out; obtain ⟨hcz11_0, hcz11_1, hcz11_2, hcz11_3, hcz11_4, hcz11_5⟩ := c6 BK306.out; obtain ⟨hfz11_0, hfz11_1, hfz11_2, hfz11_3, hfz11_4, hfz11_5⟩ := f6 BK306.out
    go_wp2
    go_loopg [7] k1 (fun kq v7 w' => ∃ (x7_2 : Int) (x310001_2 : Int) (x310002_2 : Int), v7 = .int .i64 x7_2 ∧ Aside0 (galleyref05_seam.l1 kq x6_1 x7_2 a0_0 a0_1 a0_2 a0_3 a0_4 a0_5 a1_0 a1_1 a1_2 a1_3 a1_4 a1_5 0 x310001_2 x310002_2 0 = some (r1, r2, r3, r4)) ∧ Aside0 (kq ≤ k1) ∧ Aside0 (w'.heap[gb306]? = some (.cells #[.int .i64 a0_0, .int .i64 a0_1, .int .i64 a0_2, .int .i64 a0_3, .string a0_4, .string a0_5] 26 (0, 0))) ∧ Aside0 (w'.heap[gb307]? = some (.cells #[.int .i64 a1_0, .int .i64 a1_1, .int .i64 a1_2, .int .i64 a1_3, .string a1_4, .string a1_5] 26 (0, 0))) ∧ Aside0 (w'.heap[gb308]? = some (.cells #[.int .i64 0, .int .i64 0, .int .i64 0, .int .i64 0] 24 (0, 0))) ∧ Aside0 (w'.heap[gb309]? = some (.cells #[.int .i64 0, .int .i64 x310001_2, .int .i64 x310002_2, .int .i64 0] 24 (0, 0))) ∧ Aside0 (Below w.heap.size w w'))
    case atStart => exact ⟨(1), (x310001_1), (x310002_1), (by first | rfl | (simp; done) | (simp [*]; done)), H', ⟨Nat.le_refl _⟩, ⟨pl BK306.out⟩, ⟨pl BK307.out⟩, ⟨pl BK308.out⟩, ⟨pl BK309.out⟩, ⟨by repeat (first | (with_reducible first | exact HB.out | apply below_alloc | apply pw_below_drewN | apply below_drew1 | refine below_set ?_ GE306.out | refine below_set ?_ GE307.out | refine below_set ?_ GE308.out | refine below_set ?_ GE309.out) | exact HB.out)⟩⟩
    case round =>
     clear H'
     (try clear c1); (try clear p2); (try clear c3); (try clear c7); (try clear c7b0); (try clear c8); (try clear c9); (try clear c10); (try clear hcz11_0); (try clear hcz11_1); (try clear hcz11_2); (try clear hcz11_3); (try clear hcz11_4); (try clear hcz11_5); (try clear hfz11_0); (try clear hfz11_1); (try clear hfz11_2); (try clear hfz11_3); (try clear hfz11_4); (try clear hfz11_5); (try clear p2)
     obtain ⟨x7_2, x310001_2, x310002_2, rfl, HA, HK2, BK306, BK307, BK308, BK309, HB⟩ := hrel
     cases gk with
     | zero => exact absurd HA.out (by simp [galleyref05_seam.l1])
     | succ k2 =>
      have H := HA.out; clear HA
      simp only [galleyref05_seam.l1] at H
      by_cases c12 : x7_2 ≤ (a1_4.size : Int)
      ·rw [if_pos c12] at H
       have c12b0 : decide (x7_2 ≤ (a1_4.size : Int)) = true := decide_eq_true c12
       clear c12
       obtain ⟨ji13, hji13⟩ : ∃ j_ : Int, (wrap64 ((a0_5.size : Int) - x6_1)) = j_ := ⟨_, rfl⟩
       replace H : (if 0 ≤ (ji13) then (if (ji13) ≤ (a0_5.size : Int) then (if 0 ≤ x7_2 then (if (a0_5.extract ((ji13) : Int).toNat a0_5.size).size + (a1_4.extract 0 (x7_2 : Int).toNat).size ≤ 9223372036854775807 then (if ((a0_5.extract ((ji13) : Int).toNat a0_5.size) ++ (a1_4.extract 0 (x7_2 : Int).toNat)).size ≤ 9223372036854775807 then ((some (bytesOf ((a0_5.extract ((ji13) : Int).toNat a0_5.size) ++ (a1_4.extract 0 (x7_2 : Int).toNat)) : List Int)).bind fun y310 => ((galleyref02_Long.f k2 y310 0).bind fun t313 => (if t313 = (wrap64 (x6_1 + x7_2)) then ((galleyref02_Of.f k2 y310 0).bind fun bt314 => ((galleyref05_units.f bt314.1 bt314.2.1 bt314.2.2).bind fun t317 => (galleyref05_seam.l1 k2 x6_1 (wrap64 (x7_2 + 1)) a0_0 a0_1 a0_2 a0_3 a0_4 a0_5 a1_0 a1_1 a1_2 a1_3 a1_4 a1_5 0 (wrap64 ((wrap64 (x6_1 + x7_2)) - 1)) (wrap64 ((wrap64 (x6_1 + x7_2)) - t317)) 0))) else (galleyref05_seam.l1 k2 x6_1 (wrap64 (x7_2 + 1)) a0_0 a0_1 a0_2 a0_3 a0_4 a0_5 a1_0 a1_1 a1_2 a1_3 a1_4 a1_5 0 x310001_2 x310002_2 0)))) else (none)) else (none)) else (none)) else (none)) else (none)) = some (r1, r2, r3, r4) := by first | (rw [hji13] at H; exact H) | (simp only [hji13] at H ⊢; exact H)
       have hji13w : (IntKind.i64.wrap ((a0_5.size : Int) - x6_1)) = ji13 := (i64_w _).trans hji13
       by_cases c14 : 0 ≤ (ji13)
       ·rw [if_pos c14] at H
        have c14b0 := eq_true c14
        have c14b1 : decide (0 ≤ (ji13)) = true := decide_eq_true c14
        clear c14
        by_cases c15 : (ji13) ≤ (a0_5.size : Int)
        ·rw [if_pos c15] at H
         have c15b0 := eq_true c15
         have c15b1 : decide ((ji13) ≤ (a0_5.size : Int)) = true := decide_eq_true c15
         clear c15
         by_cases c16 : 0 ≤ x7_2
         ·rw [if_pos c16] at H
          have c16b0 := eq_true c16
          have c16b1 : decide (0 ≤ x7_2) = true := decide_eq_true c16
          clear c16
          have c17b0 := eq_true (of_decide_eq_true (by first | (with_reducible assumption) | assumption) : x7_2 ≤ (a1_4.size : Int))
          by_cases c18 : (a0_5.extract ((ji13) : Int).toNat a0_5.size).size + (a1_4.extract 0 (x7_2 : Int).toNat).size ≤ 9223372036854775807
          ·rw [if_pos c18] at H
           have c18b0 := eq_true c18
           have c18b1 : decide ((a0_5.extract ((ji13) : Int).toNat a0_5.size).size + (a1_4.extract 0 (x7_2 : Int).toNat).size ≤ 9223372036854775807) = true := decide_eq_true c18
           try have c18b2 : (9223372036854775807 < (a0_5.extract ((ji13) : Int).toNat a0_5.size).size + (a1_4.extract 0 (x7_2 : Int).toNat).size) = False := eq_false (Nat.not_lt.2 c18)
           have c18b3 : (9223372036854775807 < a0_5.size - ji13.toNat + x7_2.toNat) = False := eq_false (by have z_ := c18; have z2_ : x7_2 ≤ (a1_4.size : Int) := of_decide_eq_true (by first | (with_reducible assumption) | assumption); simp only [ByteArray.size_extract] at z_; omega)
           by_cases c19 : ((a0_5.extract ((ji13) : Int).toNat a0_5.size) ++ (a1_4.extract 0 (x7_2 : Int).toNat)).size ≤ 9223372036854775807
           ·rw [if_pos c19] at H
            have c19b0 := eq_true c19
            have c19b1 : decide (((a0_5.extract ((ji13) : Int).toNat a0_5.size) ++ (a1_4.extract 0 (x7_2 : Int).toNat)).size ≤ 9223372036854775807) = true := decide_eq_true c19
            try have c19b2 : (9223372036854775807 < ((a0_5.extract ((ji13) : Int).toNat a0_5.size) ++ (a1_4.extract 0 (x7_2 : Int).toNat)).size) = False := eq_false (Nat.not_lt.2 c19)
            obtain ⟨y310, hy310⟩ : ∃ y_ : List Int, y_ = (bytesOf ((a0_5.extract ((ji13) : Int).toNat a0_5.size) ++ (a1_4.extract 0 (x7_2 : Int).toNat))) := ⟨_, rfl⟩
            replace H : ((galleyref02_Long.f k2 y310 0).bind fun t313 => (if t313 = (wrap64 (x6_1 + x7_2)) then ((galleyref02_Of.f k2 y310 0).bind fun bt314 => ((galleyref05_units.f bt314.1 bt314.2.1 bt314.2.2).bind fun t317 => (galleyref05_seam.l1 k2 x6_1 (wrap64 (x7_2 + 1)) a0_0 a0_1 a0_2 a0_3 a0_4 a0_5 a1_0 a1_1 a1_2 a1_3 a1_4 a1_5 0 (wrap64 ((wrap64 (x6_1 + x7_2)) - 1)) (wrap64 ((wrap64 (x6_1 + x7_2)) - t317)) 0))) else (galleyref05_seam.l1 k2 x6_1 (wrap64 (x7_2 + 1)) a0_0 a0_1 a0_2 a0_3 a0_4 a0_5 a1_0 a1_1 a1_2 a1_3 a1_4 a1_5 0 x310001_2 x310002_2 0))) = some (r1, r2, r3, r4) := by first | (rw [hy310]; with_reducible exact H) | (have H2_ := (Option.bind_some _ _).symm.trans H; rw [hy310]; with_reducible exact H2_) | (have H2_ := (Option.bind_some _ _).symm.trans H; with_reducible exact H2_) | with_reducible exact H | (rw [hy310]; exact H) | exact H
            have Ny310 := Aside0.mk hy310; clear hy310
            replace H := Option.bind_eq_some_iff.mp H
            obtain ⟨t313, A200, H⟩ := H
            replace H : (if t313 = (wrap64 (x6_1 + x7_2)) then ((galleyref02_Of.f k2 y310 0).bind fun bt314 => ((galleyref05_units.f bt314.1 bt314.2.1 bt314.2.2).bind fun t317 => (galleyref05_seam.l1 k2 x6_1 (wrap64 (x7_2 + 1)) a0_0 a0_1 a0_2 a0_3 a0_4 a0_5 a1_0 a1_1 a1_2 a1_3 a1_4 a1_5 0 (wrap64 ((wrap64 (x6_1 + x7_2)) - 1)) (wrap64 ((wrap64 (x6_1 + x7_2)) - t317)) 0))) else (galleyref05_seam.l1 k2 x6_1 (wrap64 (x7_2 + 1)) a0_0 a0_1 a0_2 a0_3 a0_4 a0_5 a1_0 a1_1 a1_2 a1_3 a1_4 a1_5 0 x310001_2 x310002_2 0)) = some (r1, r2, r3, r4) := H
            have A20 := Aside0.mk A200; clear A200
            by_cases c21 : t313 = (wrap64 (x6_1 + x7_2))
            ·rw [if_pos c21] at H
             have c21b0 : (t313 == (wrap64 (x6_1 + x7_2))) = true := beq_iff_eq.mpr c21
             have c21b1 : (t313 != (wrap64 (x6_1 + x7_2))) = false := bne_eq_false_iff_eq.mpr c21
             clear c21
             replace H := Option.bind_eq_some_iff.mp H
             obtain ⟨⟨t314, t315, t316⟩, A220, H⟩ := H
             replace H : ((galleyref05_units.f t314 t315 t316).bind fun t317 => (galleyref05_seam.l1 k2 x6_1 (wrap64 (x7_2 + 1)) a0_0 a0_1 a0_2 a0_3 a0_4 a0_5 a1_0 a1_1 a1_2 a1_3 a1_4 a1_5 0 (wrap64 ((wrap64 (x6_1 + x7_2)) - 1)) (wrap64 ((wrap64 (x6_1 + x7_2)) - t317)) 0)) = some (r1, r2, r3, r4) := H
             have A22 := Aside0.mk A220; clear A220
             replace H := Option.bind_eq_some_iff.mp H
             obtain ⟨t317, A230, H⟩ := H
             replace H : (galleyref05_seam.l1 k2 x6_1 (wrap64 (x7_2 + 1)) a0_0 a0_1 a0_2 a0_3 a0_4 a0_5 a1_0 a1_1 a1_2 a1_3 a1_4 a1_5 0 (wrap64 ((wrap64 (x6_1 + x7_2)) - 1)) (wrap64 ((wrap64 (x6_1 + x7_2)) - t317)) 0) = some (r1, r2, r3, r4) := H
             have A23 := Aside0.mk A230; clear A230; have H' := Aside0.mk H; clear H; have hnb24 := NB307_306.out; have hnc24 := NB306_307.out; have hnb25 := NB307_308.out; have hnc25 := NB308_307.out; have hnb26 := NB307_309.out; have hnc26 := NB309_307.out; obtain ⟨hcz27_0, hcz27_1, hcz27_2, hcz27_3, hcz27_4, hcz27_5⟩ := c6 BK307.out; obtain ⟨hfz27_0, hfz27_1, hfz27_2, hfz27_3, hfz27_4, hfz27_5⟩ := f6 BK307.out
             try go_wp2
             replace BK306 := Aside0.mk (blk_drew BK306.out); replace BK307 := Aside0.mk (blk_drew BK307.out); replace BK308 := Aside0.mk (blk_drew BK308.out); replace BK309 := Aside0.mk (blk_drew BK309.out); replace HB := Aside0.mk (below_drew1 HB.out)
             refine start_ (n := 15) (S := fun w' => w'.cell? ⟨gb306, 0, none⟩ = some (.int .i64 a0_0) ∧ w'.cell? ⟨gb306, 1, none⟩ = some (.int .i64 a0_1) ∧ w'.cell? ⟨gb306, 2, none⟩ = some (.int .i64 a0_2) ∧ w'.cell? ⟨gb306, 3, none⟩ = some (.int .i64 a0_3) ∧ w'.cell? ⟨gb306, 4, none⟩ = some (.string a0_4) ∧ w'.cell? ⟨gb306, 5, none⟩ = some (.string a0_5) ∧ w'.cell? ⟨gb307, 0, none⟩ = some (.int .i64 a1_0) ∧ w'.cell? ⟨gb307, 1, none⟩ = some (.int .i64 a1_1) ∧ w'.cell? ⟨gb307, 2, none⟩ = some (.int .i64 a1_2) ∧ w'.cell? ⟨gb307, 3, none⟩ = some (.int .i64 a1_3) ∧ w'.cell? ⟨gb307, 4, none⟩ = some (.string a1_4) ∧ w'.cell? ⟨gb307, 5, none⟩ = some (.string a1_5)) (ds := []) #[false, false, false, false, false, false, false, false, false, false, false, false, false, false, false] (by kernel_rfl) rfl rfl ⟨(blk_cell BK306.out 0).trans rfl, (blk_cell BK306.out 1).trans rfl, (blk_cell BK306.out 2).trans rfl, (blk_cell BK306.out 3).trans rfl, (blk_cell BK306.out 4).trans rfl, (blk_cell BK306.out 5).trans rfl, (blk_cell BK307.out 0).trans rfl, (blk_cell BK307.out 1).trans rfl, (blk_cell BK307.out 2).trans rfl, (blk_cell BK307.out 3).trans rfl, (blk_cell BK307.out 4).trans rfl, (blk_cell BK307.out 5).trans rfl⟩ (fun hHeld => ?_); refine with_tabW galleyref05_seam.tab8 galleyref05_seam.bits8 (fun HT_ HW_ => ?_)
             generalize wr.drew = w28 at BK306 BK307 BK308 BK309 HB hHeld ⊢
             refine pure_ (i := 0) (N := some 23) (v := ?_) (a' := ?_) #[true, false, false, false, false, false, false, false, false, false, false, false, false, false, false] rfl rfl (any_of HT_.out (by kernel_rfl)) (fun _ _ _ h => h) (Or.inl ⟨by rfl, ?_⟩) ?_ ?_
             rotate_left
             ·intro w'
              go_simp
              with_reducible rfl
             rotate_left
             ·simp only [Act.put, List.setIfInBounds_toArray, List.set_cons_zero, List.set_cons_succ, i64_w, i32_w]
              rfl
             refine pure_ (i := 2) (N := some 25) (v := ?_) (a' := ?_) #[true, false, true, false, false, false, false, false, false, false, false, false, false, false, false] rfl rfl (any_of HT_.out (by kernel_rfl)) (fun _ _ _ h => h) (Or.inl ⟨by rfl, ?_⟩) ?_ ?_
             rotate_left
             ·intro w'
              go_simp
              with_reducible rfl
             rotate_left
             ·simp only [Act.put, List.setIfInBounds_toArray, List.set_cons_zero, List.set_cons_succ, i64_w, i32_w]
              rfl
             refine pure_ (i := 5) (N := some 28) (v := ?_) (a' := ?_) #[true, false, true, false, false, true, false, false, false, false, false, false, false, false, false] rfl rfl (any_of HT_.out (by kernel_rfl)) (fun _ _ _ h => h) (Or.inl ⟨by rfl, ?_⟩) ?_ ?_
             rotate_left
             ·intro w'
              go_simp
              with_reducible rfl
             rotate_left
             ·simp only [Act.put, List.setIfInBounds_toArray, List.set_cons_zero, List.set_cons_succ, i64_w, i32_w]
              rfl
             refine pure_ (i := 8) (N := some 31) (v := ?_) (a' := ?_) #[true, false, true, false, false, true, false, false, true, false, false, false, false, false, false] rfl rfl (any_of HT_.out (by kernel_rfl)) (fun _ _ _ h => h) (Or.inl ⟨by rfl, ?_⟩) ?_ ?_
             rotate_left
             ·intro w'
              go_simp
              with_reducible rfl
             rotate_left
             ·simp only [Act.put, List.setIfInBounds_toArray, List.set_cons_zero, List.set_cons_succ, i64_w, i32_w]
              rfl
             refine pure_ (i := 10) (N := some 33) (v := ?_) (a' := ?_) #[true, false, true, false, false, true, false, false, true, false, true, false, false, false, false] rfl rfl (any_of HT_.out (by kernel_rfl)) (fun _ _ _ h => h) (Or.inl ⟨by rfl, ?_⟩) ?_ ?_
             rotate_left
             ·intro w'
              go_simp
              with_reducible rfl
             rotate_left
             ·simp only [Act.put, List.setIfInBounds_toArray, List.set_cons_zero, List.set_cons_succ, i64_w, i32_w]
              rfl
             refine take_ (i := 1) (N := some 24) (v := ?_) (a' := ?_) #[true, true, true, false, false, true, false, false, true, false, true, false, false, false, false] rfl rfl (take_ofW HT_.out HW_.out (by kernel_rfl)) (fun _ _ _ h => h) (Or.inl ⟨by rfl, ?_⟩) hHeld ?_ ?_
             rotate_left
             ·rintro w' ⟨s0, s1, s2, s3, s4, s5, s6, s7, s8, s9, s10, s11⟩
              go_simp
              with_reducible rfl
             rotate_left
             ·simp only [Act.put, List.setIfInBounds_toArray, List.set_cons_zero, List.set_cons_succ, i64_w, i32_w]
              rfl
             refine take_ (i := 3) (N := some 26) (v := ?_) (a' := ?_) #[true, true, true, true, false, true, false, false, true, false, true, false, false, false, false] rfl rfl (take_ofW HT_.out HW_.out (by kernel_rfl)) (fun _ _ _ h => h) (Or.inl ⟨by rfl, ?_⟩) hHeld ?_ ?_
             rotate_left
             ·rintro w' ⟨s0, s1, s2, s3, s4, s5, s6, s7, s8, s9, s10, s11⟩
              go_simp
              with_reducible rfl
             rotate_left
             ·simp only [Act.put, List.setIfInBounds_toArray, List.set_cons_zero, List.set_cons_succ, i64_w, i32_w]
              rfl
             refine pure_ (i := 4) (N := some 27) (v := ?_) (a' := ?_) #[true, true, true, true, true, true, false, false, true, false, true, false, false, false, false] rfl rfl (any_of HT_.out (by kernel_rfl)) (fun _ _ _ h => h) (Or.inl ⟨by rfl, ?_⟩) ?_ ?_
             rotate_left
             ·intro w'
              go_simp
              with_reducible rfl
             rotate_left
             ·simp only [Act.put, List.setIfInBounds_toArray, List.set_cons_zero, List.set_cons_succ, i64_w, i32_w]
              rfl
             refine pure_ (i := 6) (N := some 29) (v := ?_) (a' := ?_) #[true, true, true, true, true, true, true, false, true, false, true, false, false, false, false] rfl rfl (any_of HT_.out (by kernel_rfl)) (fun _ _ _ h => h) (Or.inl ⟨by rfl, ?_⟩) ?_ ?_
             rotate_left
             ·intro w'
              go_simp
              with_reducible rfl
             rotate_left
             ·simp only [Act.put, List.setIfInBounds_toArray, List.set_cons_zero, List.set_cons_succ, i64_w, i32_w]
              rfl
             refine pure_ (i := 7) (N := some 30) (v := ?_) (a' := ?_) #[true, true, true, true, true, true, true, true, true, false, true, false, false, false, false] rfl rfl (any_of HT_.out (by kernel_rfl)) (fun _ _ _ h => h) (Or.inl ⟨by rfl, ?_⟩) ?_ ?_
             rotate_left
             ·intro w'
              go_simp
              with_reducible rfl
             rotate_left
             ·simp only [Act.put, List.setIfInBounds_toArray, List.set_cons_zero, List.set_cons_succ, i64_w, i32_w]
              rfl
             refine take_ (i := 9) (N := some 32) (v := ?_) (a' := ?_) #[true, true, true, true, true, true, true, true, true, true, true, false, false, false, false] rfl rfl (take_ofW HT_.out HW_.out (by kernel_rfl)) (fun _ _ _ h => h) (Or.inl ⟨by rfl, ?_⟩) hHeld ?_ ?_
             rotate_left
             ·rintro w' ⟨s0, s1, s2, s3, s4, s5, s6, s7, s8, s9, s10, s11⟩
              go_simp
              with_reducible rfl
             rotate_left
             ·simp only [Act.put, List.setIfInBounds_toArray, List.set_cons_zero, List.set_cons_succ, i64_w, i32_w]
              rfl
             refine pure_ (i := 11) (N := some 34) (v := ?_) (a' := ?_) #[true, true, true, true, true, true, true, true, true, true, true, true, false, false, false] rfl rfl (any_of HT_.out (by kernel_rfl)) (fun _ _ _ h => h) (Or.inl ⟨by rfl, ?_⟩) ?_ ?_
             rotate_left
             ·intro w'
              go_simp
              with_reducible rfl
             rotate_left
             ·simp only [Act.put, List.setIfInBounds_toArray, List.set_cons_zero, List.set_cons_succ, i64_w, i32_w]
              rfl
             refine pure_ (i := 12) (N := some 35) (v := ?_) (a' := ?_) #[true, true, true, true, true, true, true, true, true, true, true, true, true, false, false] rfl rfl (any_of HT_.out (by kernel_rfl)) (fun _ _ _ h => h) (Or.inl ⟨by rfl, ?_⟩) ?_ ?_
             rotate_left
             ·intro w'
              go_simp
              with_reducible rfl
             rotate_left
             ·simp only [Act.put, List.setIfInBounds_toArray, List.set_cons_zero, List.set_cons_succ, i64_w, i32_w]
              rfl
             refine one_ (i := 13) (N := some 36) #[true, true, true, true, true, true, true, true, true, true, true, true, true, true, false] rfl rfl (one_of HT_.out (by kernel_rfl)) (by decide) (fun K hK => ?_)
             refine Kd.V_bytes_step _ 5 ?hg (N := 36) ?hd (s := ((a0_5.extract ((ji13) : Int).toNat a0_5.size) ++ (a1_4.extract 0 (x7_2 : Int).toNat))) (ok := fun k_ => w28.heap.size ≤ k_) rfl ?hx Tryd.underlying9 Tryd.underlying29 Tryd.underlying5 (Nat.le_refl _) (Below.refl _ _) (Nat.le_refl _) (of_decide_eq_true (by first | (with_reducible assumption) | assumption)) ?_; (case hd => rfl); (case hg => rfl); (case hx => first | rfl | (go_simp; done) | (go_simp; rfl))
             intro v311 w29 ho30 hb hg_ hnew_
             clear hg_ hnew_
             (first | rw [← Ny310.out] at ho30 | (simp only [Int.reduceToNat] at ho30; rw [← Ny310.out] at ho30))
             have HO312 := Aside0.mk (Kd.V_lower (Kd.V_mono (ok' := fun k_ => k_ ≠ gb306 ∧ k_ ≠ gb307 ∧ k_ ≠ gb308 ∧ k_ ≠ gb309) ho30 (fun k_ hk_ => ⟨(Kd.freshB (g := gb306) (o := .cells #[.int .i64 a0_0, .int .i64 a0_1, .int .i64 a0_2, .int .i64 a0_3, .string a0_4, .string a0_5] 26 (0, 0)) (pl BK306.out) k_ hk_), (Kd.freshB (g := gb307) (o := .cells #[.int .i64 a1_0, .int .i64 a1_1, .int .i64 a1_2, .int .i64 a1_3, .string a1_4, .string a1_5] 26 (0, 0)) (pl BK307.out) k_ hk_), (Kd.freshB (g := gb308) (o := .cells #[.int .i64 0, .int .i64 0, .int .i64 0, .int .i64 0] 24 (0, 0)) (pl BK308.out) k_ hk_), (Kd.freshB (g := gb309) (o := .cells #[.int .i64 0, .int .i64 x310001_2, .int .i64 x310002_2, .int .i64 0] 24 (0, 0)) (pl BK309.out) k_ hk_)⟩)) (below_size (by repeat (first | (with_reducible first | exact HB.out | apply below_alloc | apply pw_below_drewN | apply below_drew1 | refine below_set ?_ GE306.out | refine below_set ?_ GE307.out | refine below_set ?_ GE308.out | refine below_set ?_ GE309.out) | exact HB.out)))); replace BK306 := Aside0.mk (blk_below (pl BK306.out) hb); replace BK307 := Aside0.mk (blk_below (pl BK307.out) hb); replace BK308 := Aside0.mk (blk_below (pl BK308.out) hb); replace BK309 := Aside0.mk (blk_below (pl BK309.out) hb); replace HB := Aside0.mk (below_step (by repeat (first | (with_reducible first | exact HB.out | apply below_alloc | apply pw_below_drewN | apply below_drew1 | refine below_set ?_ GE306.out | refine below_set ?_ GE307.out | refine below_set ?_ GE308.out | refine below_set ?_ GE309.out) | exact HB.out)) hb); clear hb ho30
             refine hK.out _ _ ⟨(blk_cell BK306.out 0).trans rfl, (blk_cell BK306.out 1).trans rfl, (blk_cell BK306.out 2).trans rfl, (blk_cell BK306.out 3).trans rfl, (blk_cell BK306.out 4).trans rfl, (blk_cell BK306.out 5).trans rfl, (blk_cell BK307.out 0).trans rfl, (blk_cell BK307.out 1).trans rfl, (blk_cell BK307.out 2).trans rfl, (blk_cell BK307.out 3).trans rfl, (blk_cell BK307.out 4).trans rfl, (blk_cell BK307.out 5).trans rfl⟩ (fun hHeld => ?_)
             clear hK K
             refine norm_ (a' := ?_) ?_ ?_
             rotate_left
             ·show Act.put _ (some 36) _ = _
              simp only [Act.put, List.setIfInBounds_toArray, List.set_cons_zero, List.set_cons_succ, i64_w, i32_w]
              rfl
             refine pure_ (i := 14) (N := some 8) (v := ?_) (a' := ?_) #[true, true, true, true, true, true, true, true, true, true, true, true, true, true, true] rfl rfl (any_of HT_.out (by kernel_rfl)) (fun _ _ _ h => h) (Or.inl ⟨by rfl, ?_⟩) ?_ ?_
             rotate_left
             ·intro w'
              go_simp
              with_reducible rfl
             rotate_left
             ·simp only [Act.put, List.setIfInBounds_toArray, List.set_cons_zero, List.set_cons_succ, i64_w, i32_w]
              rfl
             refine done_ (done_of HT_.out (by kernel_rfl)) ?_
             obtain ⟨Ao31, co31, eo31⟩ := Kd.V_slice HO312.out
             subst eo31
             try go_wp2_with (first | ((with_reducible refine gate_callee (f := 42) rfl ?_); refine goesL_ (some 38) rfl rfl Tryd.func42 (by kernel_rfl) rfl #[.slice Ao31 y310.length co31, .int .i64 0] rfl (by (try simp only [List.map_toArray, List.map_cons, List.map_nil]); first | done | rfl | (simp only [List.length_drop, List.length_take]; rfl)) ?_; (with_reducible refine (galleyref02_Long.calls k2 _ _ y310 0 t313 _ ?side1 ?side2 A20.out).mono ?_); (case side1 => repeat (first | exact (Kd.V_reads' HO312.out).2.2 | (with_reducible refine Kd.C_alloc ?_ _) | (with_reducible refine Kd.C_drewN ?_ _) | (with_reducible refine Kd.C_drew ?_))); (case side2 => exact (Kd.V_reads' HO312.out).2.1); rintro e w' ⟨rfl, ⟨nd, rfl⟩⟩; refine ⟨_, rfl, ?_⟩; (try (rw [drewN_self w29]; generalize hq_ : World.drewN w29 _ = w29; have n0_ : Aside0 (Kd.V (Kd.int .u8) 5 w29 w.heap.size (fun k_ => k_ ≠ gb306 ∧ k_ ≠ gb307 ∧ k_ ≠ gb308 ∧ k_ ≠ gb309) (.slice Ao31 y310.length co31) y310) := ⟨by rw [← hq_]; exact (by (with_reducible repeat (first | apply Kd.V_alloc | apply Kd.V_drewN | apply Kd.V_drew)); exact HO312.out)⟩; have n1_ : Aside0 (w29.heap[gb306]? = some (.cells #[.int .i64 a0_0, .int .i64 a0_1, .int .i64 a0_2, .int .i64 a0_3, .string a0_4, .string a0_5] 26 (0, 0))) := ⟨by rw [← hq_]; exact (pl BK306.out)⟩; have n2_ : Aside0 (w29.heap[gb307]? = some (.cells #[.int .i64 a1_0, .int .i64 a1_1, .int .i64 a1_2, .int .i64 a1_3, .string a1_4, .string a1_5] 26 (0, 0))) := ⟨by rw [← hq_]; exact (pl BK307.out)⟩; have n3_ : Aside0 (w29.heap[gb308]? = some (.cells #[.int .i64 0, .int .i64 0, .int .i64 0, .int .i64 0] 24 (0, 0))) := ⟨by rw [← hq_]; exact (pl BK308.out)⟩; have n4_ : Aside0 (w29.heap[gb309]? = some (.cells #[.int .i64 0, .int .i64 x310001_2, .int .i64 x310002_2, .int .i64 0] 24 (0, 0))) := ⟨by rw [← hq_]; exact (pl BK309.out)⟩; have n5_ : Aside0 (Below w.heap.size w w29) := ⟨by rw [← hq_]; exact (by repeat (first | (with_reducible first | exact HB.out | apply below_alloc | apply pw_below_drewN | apply below_drew1 | refine below_set ?_ GE306.out | refine below_set ?_ GE307.out | refine below_set ?_ GE308.out | refine below_set ?_ GE309.out) | exact HB.out))⟩; clear HO312 BK306 BK307 BK308 BK309 HB hq_; have HO312 := n0_; have BK306 := n1_; have BK307 := n2_; have BK308 := n3_; have BK309 := n4_; have HB := n5_; clear n0_ n1_ n2_ n3_ n4_ n5_)); have hnb32 := NB309_306.out; have hnc32 := NB306_309.out; have hnb33 := NB309_308.out; have hnc33 := NB308_309.out; obtain ⟨hcz34_0, hcz34_1, hcz34_2, hcz34_3⟩ := c4 BK309.out; obtain ⟨hfz34_0, hfz34_1, hfz34_2, hfz34_3⟩ := f4 BK309.out) | ((with_reducible refine gate_callee (f := 37) rfl ?_); refine goesL_ (some 52) rfl rfl Tryd.func37 (by kernel_rfl) rfl #[.slice Ao31 y310.length co31, .int .i64 0] rfl (by (try simp only [List.map_toArray, List.map_cons, List.map_nil]); first | done | rfl | (simp only [List.length_drop, List.length_take]; rfl)) ?_; (with_reducible refine (galleyref02_Of.calls k2 _ _ y310 0 t314 t315 t316 _ ?side1 ?side2 A22.out).mono ?_); (case side1 => refine (Kd.V_reads' (e := 5) (base := w.heap.size) (ok := fun k_ => (k_ ≠ gb306 ∧ (k_ ≠ gb307 ∧ (k_ ≠ gb308 ∧ k_ ≠ gb309)))) (n := y310.length) (c := co31) ?_).2.2; exact (by (with_reducible repeat (first | apply Kd.V_alloc | apply Kd.V_drewN | apply Kd.V_drew)); exact (Kd.V_mono (Kd.V_far (p := ⟨gb309, 1, none⟩) (Kd.V_mono HO312.out (fun k_ hk => (⟨hk, hk.2.2.2⟩ : _ ∧ k_ ≠ gb309))) (fun _ hk => hk.2) (.int .i64 (wrap64 ((wrap64 (x6_1 + x7_2)) - 1)))) (fun _ h_ => h_.1)))); (case side2 => exact (Kd.V_reads' HO312.out).2.1); rintro e w35 ⟨rfl, hb⟩; refine ⟨_, rfl, ?_⟩; replace HO312 := Aside0.mk (Kd.V_below (by (with_reducible repeat (first | apply Kd.V_alloc | apply Kd.V_drewN | apply Kd.V_drew)); exact (Kd.V_mono (Kd.V_far (p := ⟨gb309, 1, none⟩) (Kd.V_mono HO312.out (fun k_ hk => (⟨hk, hk.2.2.2⟩ : _ ∧ k_ ≠ gb309))) (fun _ hk => hk.2) (.int .i64 (wrap64 ((wrap64 (x6_1 + x7_2)) - 1)))) (fun _ h_ => h_.1))) hb); replace BK306 := Aside0.mk (blk_below (g := gb306) (o := .cells #[.int .i64 a0_0, .int .i64 a0_1, .int .i64 a0_2, .int .i64 a0_3, .string a0_4, .string a0_5] 26 (0, 0)) (by refine pl ?_; refine blk_far ?_ NB306_309.out _; refine pl ?_; exact BK306.out) hb); replace BK307 := Aside0.mk (blk_below (g := gb307) (o := .cells #[.int .i64 a1_0, .int .i64 a1_1, .int .i64 a1_2, .int .i64 a1_3, .string a1_4, .string a1_5] 26 (0, 0)) (by refine pl ?_; refine blk_far ?_ NB307_309.out _; refine pl ?_; exact BK307.out) hb); replace BK308 := Aside0.mk (blk_below (g := gb308) (o := .cells #[.int .i64 0, .int .i64 0, .int .i64 0, .int .i64 0] 24 (0, 0)) (by refine pl ?_; refine blk_far ?_ NB308_309.out _; refine pl ?_; exact BK308.out) hb); replace BK309 := Aside0.mk (blk_below (g := gb309) (o := .cells #[.int .i64 0, .int .i64 (wrap64 ((wrap64 (x6_1 + x7_2)) - 1)), .int .i64 x310002_2, .int .i64 0] 24 (0, 0)) (by refine pl ?_; refine blk_put (cs := #[.int .i64 0, .int .i64 x310001_2, .int .i64 x310002_2, .int .i64 0]) ?_ 1 _ rfl; refine pl ?_; exact BK309.out) hb); replace HB := Aside0.mk (below_step (by repeat (first | (with_reducible first | exact HB.out | apply below_alloc | apply pw_below_drewN | apply below_drew1 | refine below_set ?_ GE306.out | refine below_set ?_ GE307.out | refine below_set ?_ GE308.out | refine below_set ?_ GE309.out) | exact HB.out)) hb); (try clear hb); (try clear hb2); (try clear hk); (try clear hi)) | ((with_reducible refine gate_callee (f := 30) rfl ?_); refine goesL_ (some 53) rfl rfl Tryd.func30 (by kernel_rfl) rfl #[.agg #[.int .i32 t314, .int .i64 t315, .bool t316]] rfl (by (try simp only [List.map_toArray, List.map_cons, List.map_nil]); first | done | rfl | (simp only [List.length_drop, List.length_take]; rfl)) ?_; (with_reducible refine (galleyref05_units.calls t314 t315 t316 t317 _ A23.out).mono ?_); rintro e w36 ⟨rfl, hb⟩; refine ⟨_, rfl, ?_⟩; replace HO312 := Aside0.mk (Kd.V_below (by (with_reducible repeat (first | apply Kd.V_alloc | apply Kd.V_drewN | apply Kd.V_drew)); exact HO312.out) hb); replace BK306 := Aside0.mk (blk_below (pl BK306.out) hb); replace BK307 := Aside0.mk (blk_below (pl BK307.out) hb); replace BK308 := Aside0.mk (blk_below (pl BK308.out) hb); replace BK309 := Aside0.mk (blk_below (pl BK309.out) hb); replace HB := Aside0.mk (below_step (by repeat (first | (with_reducible first | exact HB.out | apply below_alloc | apply pw_below_drewN | apply below_drew1 | refine below_set ?_ GE306.out | refine below_set ?_ GE307.out | refine below_set ?_ GE308.out | refine below_set ?_ GE309.out) | exact HB.out)) hb); (try clear hb); (try clear hb2); (try clear hk); (try clear hi); obtain ⟨hcz37_0, hcz37_1, hcz37_2, hcz37_3⟩ := c4 BK309.out; obtain ⟨hfz37_0, hfz37_1, hfz37_2, hfz37_3⟩ := f4 BK309.out))
             go_roundg k2
             case measure => have := HK1.out; have := HK2.out; omega
             case rel => exact ⟨(wrap64 (x7_2 + 1)), (wrap64 ((wrap64 (x6_1 + x7_2)) - 1)), (wrap64 ((wrap64 (x6_1 + x7_2)) - t317)), (by first | rfl | (simp; done) | (simp [*]; done)), H', ⟨by have := HK1.out; have := HK2.out; omega⟩, ⟨by refine pl ?_; refine blk_far ?_ NB306_309.out _; refine pl ?_; exact BK306.out⟩, ⟨by refine pl ?_; refine blk_far ?_ NB307_309.out _; refine pl ?_; exact BK307.out⟩, ⟨by refine pl ?_; refine blk_far ?_ NB308_309.out _; refine pl ?_; exact BK308.out⟩, ⟨by refine pl ?_; refine blk_put (cs := #[.int .i64 0, .int .i64 (wrap64 ((wrap64 (x6_1 + x7_2)) - 1)), .int .i64 x310002_2, .int .i64 0]) ?_ 2 _ rfl; refine pl ?_; exact BK309.out⟩, ⟨by repeat (first | (with_reducible first | exact HB.out | apply below_alloc | apply pw_below_drewN | apply below_drew1 | refine below_set ?_ GE306.out | refine below_set ?_ GE307.out | refine below_set ?_ GE308.out | refine below_set ?_ GE309.out) | exact HB.out)⟩⟩
            ·rw [if_neg c21] at H
             have c21b0 : (t313 == (wrap64 (x6_1 + x7_2))) = false := beq_eq_false_iff_ne.mpr c21
             have c21b1 : (t313 != (wrap64 (x6_1 + x7_2))) = true := bne_iff_ne.mpr c21
             have H' := Aside0.mk H; clear H; have hnb38 := NB307_306.out; have hnc38 := NB306_307.out; have hnb39 := NB307_308.out; have hnc39 := NB308_307.out; have hnb40 := NB307_309.out; have hnc40 := NB309_307.out; obtain ⟨hcz41_0, hcz41_1, hcz41_2, hcz41_3, hcz41_4, hcz41_5⟩ := c6 BK307.out; obtain ⟨hfz41_0, hfz41_1, hfz41_2, hfz41_3, hfz41_4, hfz41_5⟩ := f6 BK307.out
             try go_wp2
             replace BK306 := Aside0.mk (blk_drew BK306.out); replace BK307 := Aside0.mk (blk_drew BK307.out); replace BK308 := Aside0.mk (blk_drew BK308.out); replace BK309 := Aside0.mk (blk_drew BK309.out); replace HB := Aside0.mk (below_drew1 HB.out)
             refine start_ (n := 15) (S := fun w' => w'.cell? ⟨gb306, 0, none⟩ = some (.int .i64 a0_0) ∧ w'.cell? ⟨gb306, 1, none⟩ = some (.int .i64 a0_1) ∧ w'.cell? ⟨gb306, 2, none⟩ = some (.int .i64 a0_2) ∧ w'.cell? ⟨gb306, 3, none⟩ = some (.int .i64 a0_3) ∧ w'.cell? ⟨gb306, 4, none⟩ = some (.string a0_4) ∧ w'.cell? ⟨gb306, 5, none⟩ = some (.string a0_5) ∧ w'.cell? ⟨gb307, 0, none⟩ = some (.int .i64 a1_0) ∧ w'.cell? ⟨gb307, 1, none⟩ = some (.int .i64 a1_1) ∧ w'.cell? ⟨gb307, 2, none⟩ = some (.int .i64 a1_2) ∧ w'.cell? ⟨gb307, 3, none⟩ = some (.int .i64 a1_3) ∧ w'.cell? ⟨gb307, 4, none⟩ = some (.string a1_4) ∧ w'.cell? ⟨gb307, 5, none⟩ = some (.string a1_5)) (ds := []) #[false, false, false, false, false, false, false, false, false, false, false, false, false, false, false] (by kernel_rfl) rfl rfl ⟨(blk_cell BK306.out 0).trans rfl, (blk_cell BK306.out 1).trans rfl, (blk_cell BK306.out 2).trans rfl, (blk_cell BK306.out 3).trans rfl, (blk_cell BK306.out 4).trans rfl, (blk_cell BK306.out 5).trans rfl, (blk_cell BK307.out 0).trans rfl, (blk_cell BK307.out 1).trans rfl, (blk_cell BK307.out 2).trans rfl, (blk_cell BK307.out 3).trans rfl, (blk_cell BK307.out 4).trans rfl, (blk_cell BK307.out 5).trans rfl⟩ (fun hHeld => ?_); refine with_tabW galleyref05_seam.tab8 galleyref05_seam.bits8 (fun HT_ HW_ => ?_)
             generalize wr.drew = w42 at BK306 BK307 BK308 BK309 HB hHeld ⊢
             refine pure_ (i := 0) (N := some 23) (v := ?_) (a' := ?_) #[true, false, false, false, false, false, false, false, false, false, false, false, false, false, false] rfl rfl (any_of HT_.out (by kernel_rfl)) (fun _ _ _ h => h) (Or.inl ⟨by rfl, ?_⟩) ?_ ?_
             rotate_left
             ·intro w'
              go_simp
              with_reducible rfl
             rotate_left
             ·simp only [Act.put, List.setIfInBounds_toArray, List.set_cons_zero, List.set_cons_succ, i64_w, i32_w]
              rfl
             refine pure_ (i := 2) (N := some 25) (v := ?_) (a' := ?_) #[true, false, true, false, false, false, false, false, false, false, false, false, false, false, false] rfl rfl (any_of HT_.out (by kernel_rfl)) (fun _ _ _ h => h) (Or.inl ⟨by rfl, ?_⟩) ?_ ?_
             rotate_left
             ·intro w'
              go_simp
              with_reducible rfl
             rotate_left
             ·simp only [Act.put, List.setIfInBounds_toArray, List.set_cons_zero, List.set_cons_succ, i64_w, i32_w]
              rfl
             refine pure_ (i := 5) (N := some 28) (v := ?_) (a' := ?_) #[true, false, true, false, false, true, false, false, false, false, false, false, false, false, false] rfl rfl (any_of HT_.out (by kernel_rfl)) (fun _ _ _ h => h) (Or.inl ⟨by rfl, ?_⟩) ?_ ?_
             rotate_left
             ·intro w'
              go_simp
              with_reducible rfl
             rotate_left
             ·simp only [Act.put, List.setIfInBounds_toArray, List.set_cons_zero, List.set_cons_succ, i64_w, i32_w]
              rfl
             refine pure_ (i := 8) (N := some 31) (v := ?_) (a' := ?_) #[true, false, true, false, false, true, false, false, true, false, false, false, false, false, false] rfl rfl (any_of HT_.out (by kernel_rfl)) (fun _ _ _ h => h) (Or.inl ⟨by rfl, ?_⟩) ?_ ?_
             rotate_left
             ·intro w'
              go_simp
              with_reducible rfl
             rotate_left
             ·simp only [Act.put, List.setIfInBounds_toArray, List.set_cons_zero, List.set_cons_succ, i64_w, i32_w]
              rfl
             refine pure_ (i := 10) (N := some 33) (v := ?_) (a' := ?_) #[true, false, true, false, false, true, false, false, true, false, true, false, false, false, false] rfl rfl (any_of HT_.out (by kernel_rfl)) (fun _ _ _ h => h) (Or.inl ⟨by rfl, ?_⟩) ?_ ?_
             rotate_left
             ·intro w'
              go_simp
              with_reducible rfl
             rotate_left
             ·simp only [Act.put, List.setIfInBounds_toArray, List.set_cons_zero, List.set_cons_succ, i64_w, i32_w]
              rfl
             refine take_ (i := 1) (N := some 24) (v := ?_) (a' := ?_) #[true, true, true, false, false, true, false, false, true, false, true, false, false, false, false] rfl rfl (take_ofW HT_.out HW_.out (by kernel_rfl)) (fun _ _ _ h => h) (Or.inl ⟨by rfl, ?_⟩) hHeld ?_ ?_
             rotate_left
             ·rintro w' ⟨s0, s1, s2, s3, s4, s5, s6, s7, s8, s9, s10, s11⟩
              go_simp
              with_reducible rfl
             rotate_left
             ·simp only [Act.put, List.setIfInBounds_toArray, List.set_cons_zero, List.set_cons_succ, i64_w, i32_w]
              rfl
             refine take_ (i := 3) (N := some 26) (v := ?_) (a' := ?_) #[true, true, true, true, false, true, false, false, true, false, true, false, false, false, false] rfl rfl (take_ofW HT_.out HW_.out (by kernel_rfl)) (fun _ _ _ h => h) (Or.inl ⟨by rfl, ?_⟩) hHeld ?_ ?_
             rotate_left
             ·rintro w' ⟨s0, s1, s2, s3, s4, s5, s6, s7, s8, s9, s10, s11⟩
              go_simp
              with_reducible rfl
             rotate_left
             ·simp only [Act.put, List.setIfInBounds_toArray, List.set_cons_zero, List.set_cons_succ, i64_w, i32_w]
              rfl
             refine pure_ (i := 4) (N := some 27) (v := ?_) (a' := ?_) #[true, true, true, true, true, true, false, false, true, false, true, false, false, false, false] rfl rfl (any_of HT_.out (by kernel_rfl)) (fun _ _ _ h => h) (Or.inl ⟨by rfl, ?_⟩) ?_ ?_
             rotate_left
             ·intro w'
              go_simp
              with_reducible rfl
             rotate_left
             ·simp only [Act.put, List.setIfInBounds_toArray, List.set_cons_zero, List.set_cons_succ, i64_w, i32_w]
              rfl
             refine pure_ (i := 6) (N := some 29) (v := ?_) (a' := ?_) #[true, true, true, true, true, true, true, false, true, false, true, false, false, false, false] rfl rfl (any_of HT_.out (by kernel_rfl)) (fun _ _ _ h => h) (Or.inl ⟨by rfl, ?_⟩) ?_ ?_
             rotate_left
             ·intro w'
              go_simp
              with_reducible rfl
             rotate_left
             ·simp only [Act.put, List.setIfInBounds_toArray, List.set_cons_zero, List.set_cons_succ, i64_w, i32_w]
              rfl
             refine pure_ (i := 7) (N := some 30) (v := ?_) (a' := ?_) #[true, true, true, true, true, true, true, true, true, false, true, false, false, false, false] rfl rfl (any_of HT_.out (by kernel_rfl)) (fun _ _ _ h => h) (Or.inl ⟨by rfl, ?_⟩) ?_ ?_
             rotate_left
             ·intro w'
              go_simp
              with_reducible rfl
             rotate_left
             ·simp only [Act.put, List.setIfInBounds_toArray, List.set_cons_zero, List.set_cons_succ, i64_w, i32_w]
              rfl
             refine take_ (i := 9) (N := some 32) (v := ?_) (a' := ?_) #[true, true, true, true, true, true, true, true, true, true, true, false, false, false, false] rfl rfl (take_ofW HT_.out HW_.out (by kernel_rfl)) (fun _ _ _ h => h) (Or.inl ⟨by rfl, ?_⟩) hHeld ?_ ?_
             rotate_left
             ·rintro w' ⟨s0, s1, s2, s3, s4, s5, s6, s7, s8, s9, s10, s11⟩
              go_simp
              with_reducible rfl
             rotate_left
             ·simp only [Act.put, List.setIfInBounds_toArray, List.set_cons_zero, List.set_cons_succ, i64_w, i32_w]
              rfl
             refine pure_ (i := 11) (N := some 34) (v := ?_) (a' := ?_) #[true, true, true, true, true, true, true, true, true, true, true, true, false, false, false] rfl rfl (any_of HT_.out (by kernel_rfl)) (fun _ _ _ h => h) (Or.inl ⟨by rfl, ?_⟩) ?_ ?_
             rotate_left
             ·intro w'
              go_simp
              with_reducible rfl
             rotate_left
             ·simp only [Act.put, List.setIfInBounds_toArray, List.set_cons_zero, List.set_cons_succ, i64_w, i32_w]
              rfl
             refine pure_ (i := 12) (N := some 35) (v := ?_) (a' := ?_) #[true, true, true, true, true, true, true, true, true, true, true, true, true, false, false] rfl rfl (any_of HT_.out (by kernel_rfl)) (fun _ _ _ h => h) (Or.inl ⟨by rfl, ?_⟩) ?_ ?_
             rotate_left
             ·intro w'
              go_simp
              with_reducible rfl
             rotate_left
             ·simp only [Act.put, List.setIfInBounds_toArray, List.set_cons_zero, List.set_cons_succ, i64_w, i32_w]
              rfl
             refine one_ (i := 13) (N := some 36) #[true, true, true, true, true, true, true, true, true, true, true, true, true, true, false] rfl rfl (one_of HT_.out (by kernel_rfl)) (by decide) (fun K hK => ?_)
             refine Kd.V_bytes_step _ 5 ?hg (N := 36) ?hd (s := ((a0_5.extract ((ji13) : Int).toNat a0_5.size) ++ (a1_4.extract 0 (x7_2 : Int).toNat))) (ok := fun k_ => w42.heap.size ≤ k_) rfl ?hx Tryd.underlying9 Tryd.underlying29 Tryd.underlying5 (Nat.le_refl _) (Below.refl _ _) (Nat.le_refl _) (of_decide_eq_true (by first | (with_reducible assumption) | assumption)) ?_; (case hd => rfl); (case hg => rfl); (case hx => first | rfl | (go_simp; done) | (go_simp; rfl))
             intro v311 w43 ho44 hb hg_ hnew_
             clear hg_ hnew_
             (first | rw [← Ny310.out] at ho44 | (simp only [Int.reduceToNat] at ho44; rw [← Ny310.out] at ho44))
             have HO312 := Aside0.mk (Kd.V_lower (Kd.V_mono (ok' := fun k_ => k_ ≠ gb306 ∧ k_ ≠ gb307 ∧ k_ ≠ gb308 ∧ k_ ≠ gb309) ho44 (fun k_ hk_ => ⟨(Kd.freshB (g := gb306) (o := .cells #[.int .i64 a0_0, .int .i64 a0_1, .int .i64 a0_2, .int .i64 a0_3, .string a0_4, .string a0_5] 26 (0, 0)) (pl BK306.out) k_ hk_), (Kd.freshB (g := gb307) (o := .cells #[.int .i64 a1_0, .int .i64 a1_1, .int .i64 a1_2, .int .i64 a1_3, .string a1_4, .string a1_5] 26 (0, 0)) (pl BK307.out) k_ hk_), (Kd.freshB (g := gb308) (o := .cells #[.int .i64 0, .int .i64 0, .int .i64 0, .int .i64 0] 24 (0, 0)) (pl BK308.out) k_ hk_), (Kd.freshB (g := gb309) (o := .cells #[.int .i64 0, .int .i64 x310001_2, .int .i64 x310002_2, .int .i64 0] 24 (0, 0)) (pl BK309.out) k_ hk_)⟩)) (below_size (by repeat (first | (with_reducible first | exact HB.out | apply below_alloc | apply pw_below_drewN | apply below_drew1 | refine below_set ?_ GE306.out | refine below_set ?_ GE307.out | refine below_set ?_ GE308.out | refine below_set ?_ GE309.out) | exact HB.out)))); replace BK306 := Aside0.mk (blk_below (pl BK306.out) hb); replace BK307 := Aside0.mk (blk_below (pl BK307.out) hb); replace BK308 := Aside0.mk (blk_below (pl BK308.out) hb); replace BK309 := Aside0.mk (blk_below (pl BK309.out) hb); replace HB := Aside0.mk (below_step (by repeat (first | (with_reducible first | exact HB.out | apply below_alloc | apply pw_below_drewN | apply below_drew1 | refine below_set ?_ GE306.out | refine below_set ?_ GE307.out | refine below_set ?_ GE308.out | refine below_set ?_ GE309.out) | exact HB.out)) hb); clear hb ho44
             refine hK.out _ _ ⟨(blk_cell BK306.out 0).trans rfl, (blk_cell BK306.out 1).trans rfl, (blk_cell BK306.out 2).trans rfl, (blk_cell BK306.out 3).trans rfl, (blk_cell BK306.out 4).trans rfl, (blk_cell BK306.out 5).trans rfl, (blk_cell BK307.out 0).trans rfl, (blk_cell BK307.out 1).trans rfl, (blk_cell BK307.out 2).trans rfl, (blk_cell BK307.out 3).trans rfl, (blk_cell BK307.out 4).trans rfl, (blk_cell BK307.out 5).trans rfl⟩ (fun hHeld => ?_)
             clear hK K
             refine norm_ (a' := ?_) ?_ ?_
             rotate_left
             ·show Act.put _ (some 36) _ = _
              simp only [Act.put, List.setIfInBounds_toArray, List.set_cons_zero, List.set_cons_succ, i64_w, i32_w]
              rfl
             refine pure_ (i := 14) (N := some 8) (v := ?_) (a' := ?_) #[true, true, true, true, true, true, true, true, true, true, true, true, true, true, true] rfl rfl (any_of HT_.out (by kernel_rfl)) (fun _ _ _ h => h) (Or.inl ⟨by rfl, ?_⟩) ?_ ?_
             rotate_left
             ·intro w'
              go_simp
              with_reducible rfl
             rotate_left
             ·simp only [Act.put, List.setIfInBounds_toArray, List.set_cons_zero, List.set_cons_succ, i64_w, i32_w]
              rfl
             refine done_ (done_of HT_.out (by kernel_rfl)) ?_
             obtain ⟨Ao45, co45, eo45⟩ := Kd.V_slice HO312.out
             subst eo45
             try go_wp2_with (first | ((with_reducible refine gate_callee (f := 42) rfl ?_); refine goesL_ (some 38) rfl rfl Tryd.func42 (by kernel_rfl) rfl #[.slice Ao45 y310.length co45, .int .i64 0] rfl (by (try simp only [List.map_toArray, List.map_cons, List.map_nil]); first | done | rfl | (simp only [List.length_drop, List.length_take]; rfl)) ?_; (with_reducible refine (galleyref02_Long.calls k2 _ _ y310 0 t313 _ ?side1 ?side2 A20.out).mono ?_); (case side1 => repeat (first | exact (Kd.V_reads' HO312.out).2.2 | (with_reducible refine Kd.C_alloc ?_ _) | (with_reducible refine Kd.C_drewN ?_ _) | (with_reducible refine Kd.C_drew ?_))); (case side2 => exact (Kd.V_reads' HO312.out).2.1); rintro e w' ⟨rfl, ⟨nd, rfl⟩⟩; refine ⟨_, rfl, ?_⟩))
             go_roundg k2
             case measure => have := HK1.out; have := HK2.out; omega
             case rel => exact ⟨(wrap64 (x7_2 + 1)), (x310001_2), (x310002_2), (by first | rfl | (simp; done) | (simp [*]; done)), H', ⟨by have := HK1.out; have := HK2.out; omega⟩, ⟨pl BK306.out⟩, ⟨pl BK307.out⟩, ⟨pl BK308.out⟩, ⟨pl BK309.out⟩, ⟨by repeat (first | (with_reducible first | exact HB.out | apply below_alloc | apply pw_below_drewN | apply below_drew1 | refine below_set ?_ GE306.out | refine below_set ?_ GE307.out | refine below_set ?_ GE308.out | refine below_set ?_ GE309.out) | exact HB.out)⟩⟩
           ·rw [if_neg c19] at H
            exact absurd H (by simp)
          ·rw [if_neg c18] at H
           exact absurd H (by simp)
         ·rw [if_neg c16] at H
          exact absurd H (by simp)
        ·rw [if_neg c15] at H
         exact absurd H (by simp)
       ·rw [if_neg c14] at H
        exact absurd H (by simp)
      ·rw [if_neg c12] at H
       have c12b0 : decide (x7_2 ≤ (a1_4.size : Int)) = false := decide_eq_false c12
       clear c12; have H' := Aside0.mk H; clear H; have hnb46 := NB307_306.out; have hnc46 := NB306_307.out; have hnb47 := NB307_308.out; have hnc47 := NB308_307.out; have hnb48 := NB307_309.out; have hnc48 := NB309_307.out; obtain ⟨hcz49_0, hcz49_1, hcz49_2, hcz49_3, hcz49_4, hcz49_5⟩ := c6 BK307.out; obtain ⟨hfz49_0, hfz49_1, hfz49_2, hfz49_3, hfz49_4, hfz49_5⟩ := f6 BK307.out
       go_wp2
       go_roundg k2
       case measure => have := HK1.out; have := HK2.out; omega
       case rel => exact ⟨(wrap64 (x6_1 + 1)), (x310001_2), (x310002_2), (by first | rfl | (simp; done) | (simp [*]; done)), H', ⟨by have := HK1.out; have := HK2.out; omega⟩, ⟨pl BK306.out⟩, ⟨pl BK307.out⟩, ⟨pl BK308.out⟩, ⟨pl BK309.out⟩, ⟨by repeat (first | (with_reducible first | exact HB.out | apply below_alloc | apply pw_below_drewN | apply below_drew1 | refine below_set ?_ GE306.out | refine below_set ?_ GE307.out | refine below_set ?_ GE308.out | refine below_set ?_ GE309.out) | exact HB.out)⟩⟩
   ·rw [if_neg c7] at H
    have c7b0 : decide (x6_1 ≤ (a0_5.size : Int)) = false := decide_eq_false c7
    clear c7
    by_cases c50 : (a0_5.size : Int) > 0
    ·rw [if_pos c50] at H
     have c50b0 : decide (0 < (a0_5.size : Int)) = true := decide_eq_true c50
     have c50b1 : decide (0 < a0_5.size) = true := decide_eq_true (by omega)
     clear c50
     by_cases c51 : (a1_4.size : Int) > 0
     ·rw [if_pos c51] at H
      have c51b0 : decide (0 < (a1_4.size : Int)) = true := decide_eq_true c51
      have c51b1 : decide (0 < a1_4.size) = true := decide_eq_true (by omega)
      clear c51
      obtain ⟨ji52, hji52⟩ : ∃ j_ : Int, (wrap64 ((a0_5.size : Int) - 1)) = j_ := ⟨_, rfl⟩
      replace H : (if 0 ≤ (ji52) then (if (ji52) < (a0_5.size : Int) then (if (bt a0_5 (ji52)) = 13 then (if 0 < (a1_4.size : Int) then (if (bt a1_4 0) = 10 then (some (0, x310001_1, x310002_1, 1)) else (some (0, x310001_1, x310002_1, 0))) else (none)) else (some (0, x310001_1, x310002_1, 0))) else (none)) else (none)) = some (r1, r2, r3, r4) := by first | (rw [hji52] at H; exact H) | (simp only [hji52] at H ⊢; exact H)
      have hji52w : (IntKind.i64.wrap ((a0_5.size : Int) - 1)) = ji52 := (i64_w _).trans hji52
      by_cases c53 : 0 ≤ (ji52)
      ·rw [if_pos c53] at H
       have c53b0 : decide (0 ≤ (ji52)) = true := decide_eq_true c53
       clear c53
       by_cases c54 : (ji52) < (a0_5.size : Int)
       ·rw [if_pos c54] at H
        have c54b0 : decide ((ji52) < (a0_5.size : Int)) = true := decide_eq_true c54
        clear c54
        by_cases c56 : (bt a0_5 (ji52)) = 13
        ·rw [if_pos c56] at H
         have c56b0 : ((bt a0_5 (ji52)) == 13) = true := beq_iff_eq.mpr c56
         have c56b1 : ((bt a0_5 (ji52)) != 13) = false := bne_eq_false_iff_eq.mpr c56
         clear c56
         by_cases c57 : 0 < (a1_4.size : Int)
         ·rw [if_pos c57] at H
          have c57b0 : decide (0 < (a1_4.size : Int)) = true := decide_eq_true c57
          have c57b1 : decide (0 < a1_4.size) = true := decide_eq_true (by omega)
          clear c57
          by_cases c59 : (bt a1_4 0) = 10
          ·rw [if_pos c59] at H
           have c59b0 : ((bt a1_4 0) == 10) = true := beq_iff_eq.mpr c59
           have c59b1 : ((bt a1_4 0) != 10) = false := bne_eq_false_iff_eq.mpr c59
           clear c59
           simp only [Option.some.injEq, Prod.mk.injEq] at H
           obtain ⟨rfl, rfl, rfl, rfl⟩ := H
           have hnb60 := NB306_307.out; have hnc60 := NB307_306.out; have hnb61 := NB306_308.out; have hnc61 := NB308_306.out; have hnb62 := NB306_309.out; have hnc62 := NB309_306.out; obtain ⟨hcz63_0, hcz63_1, hcz63_2, hcz63_3, hcz63_4, hcz63_5⟩ := c6 BK306.out; obtain ⟨hfz63_0, hfz63_1, hfz63_2, hfz63_3, hfz63_4, hfz63_5⟩ := f6 BK306.out; have hnb64 := NB307_308.out; have hnc64 := NB308_307.out; have hnb65 := NB307_309.out; have hnc65 := NB309_307.out; obtain ⟨hcz66_0, hcz66_1, hcz66_2, hcz66_3, hcz66_4, hcz66_5⟩ := c6 BK307.out; obtain ⟨hfz66_0, hfz66_1, hfz66_2, hfz66_3, hfz66_4, hfz66_5⟩ := f6 BK307.out
           have p55 : 0 ≤ ((ji52) : Int) := of_decide_eq_true (by first | (with_reducible assumption) | assumption)
           have q55 : (ji52) < (a0_5.size : Int) := of_decide_eq_true (by first | (with_reducible assumption) | assumption)
           have hx55 := bt_at a0_5 (ji52)
           replace p55 := eq_true p55
           replace q55 := eq_true q55
           have p58 : 0 ≤ (0 : Int) := (by omega)
           have q58 : 0 < a1_4.size := (by have : (0 : Int) < (a1_4.size : Int) := of_decide_eq_true (by first | (with_reducible assumption) | assumption); omega)
           have hx58 : ∀ h : 0 < a1_4.size, ((a1_4[0]'h).toNat : Int) = bt a1_4 0 := bt_at a1_4 0
           clear p58
           have qi58 : (0 < (a1_4.size : Int)) = True := eq_true (of_decide_eq_true (by first | (with_reducible assumption) | assumption))
           replace q58 := eq_true q58
           have hnb67 := NB309_308.out; have hnc67 := NB308_309.out; obtain ⟨hcz68_0, hcz68_1, hcz68_2, hcz68_3⟩ := c4 BK309.out; obtain ⟨hfz68_0, hfz68_1, hfz68_2, hfz68_3⟩ := f4 BK309.out; obtain ⟨hcz69_0, hcz69_1, hcz69_2, hcz69_3⟩ := c4 BK308.out; obtain ⟨hfz69_0, hfz69_1, hfz69_2, hfz69_3⟩ := f4 BK308.out
           go_wp2
           refine bodyPost_ret (results_cell_row rfl _ _ gb308 24 #[.int .i64 0, .int .i64 x310001_1, .int .i64 x310002_1, .int .i64 1] (0, 0) _ rfl (by refine pl ?_; refine blk_put (cs := #[.int .i64 0, .int .i64 x310001_1, .int .i64 x310002_1, .int .i64 0]) ?_ 3 _ rfl; refine pl ?_; refine blk_put (cs := #[.int .i64 0, .int .i64 x310001_1, .int .i64 0, .int .i64 0]) ?_ 2 _ rfl; refine pl ?_; refine blk_put (cs := #[.int .i64 0, .int .i64 0, .int .i64 0, .int .i64 0]) ?_ 1 _ rfl; refine pl ?_; refine blk_put (cs := #[.int .i64 0, .int .i64 0, .int .i64 0, .int .i64 0]) ?_ 0 _ rfl; refine pl ?_; refine blk_far ?_ NB308_309.out _; refine pl ?_; exact BK308.out) Tryd.underlying24 rfl (by kernel_rfl)) rfl ?_
           exact ⟨by first | rfl | (simp [errW_none, errW_some] <;> rfl) | (simp only [← hji52]; first | rfl | (simp [errW_none, errW_some] <;> rfl)) | (simp [*, errW_none, errW_some] <;> rfl), by repeat (first | (with_reducible first | exact HB.out | apply below_alloc | apply pw_below_drewN | apply below_drew1 | refine below_set ?_ GE306.out | refine below_set ?_ GE307.out | refine below_set ?_ GE308.out | refine below_set ?_ GE309.out) | exact HB.out)⟩
          ·rw [if_neg c59] at H
           have c59b0 : ((bt a1_4 0) == 10) = false := beq_eq_false_iff_ne.mpr c59
           have c59b1 : ((bt a1_4 0) != 10) = true := bne_iff_ne.mpr c59
           simp only [Option.some.injEq, Prod.mk.injEq] at H
           obtain ⟨rfl, rfl, rfl, rfl⟩ := H
           have hnb70 := NB306_307.out; have hnc70 := NB307_306.out; have hnb71 := NB306_308.out; have hnc71 := NB308_306.out; have hnb72 := NB306_309.out; have hnc72 := NB309_306.out; obtain ⟨hcz73_0, hcz73_1, hcz73_2, hcz73_3, hcz73_4, hcz73_5⟩ := c6 BK306.out; obtain ⟨hfz73_0, hfz73_1, hfz73_2, hfz73_3, hfz73_4, hfz73_5⟩ := f6 BK306.out; have hnb74 := NB307_308.out; have hnc74 := NB308_307.out; have hnb75 := NB307_309.out; have hnc75 := NB309_307.out; obtain ⟨hcz76_0, hcz76_1, hcz76_2, hcz76_3, hcz76_4, hcz76_5⟩ := c6 BK307.out; obtain ⟨hfz76_0, hfz76_1, hfz76_2, hfz76_3, hfz76_4, hfz76_5⟩ := f6 BK307.out
           have p55 : 0 ≤ ((ji52) : Int) := of_decide_eq_true (by first | (with_reducible assumption) | assumption)
           have q55 : (ji52) < (a0_5.size : Int) := of_decide_eq_true (by first | (with_reducible assumption) | assumption)
           have hx55 := bt_at a0_5 (ji52)
           replace p55 := eq_true p55
           replace q55 := eq_true q55
           have p58 : 0 ≤ (0 : Int) := (by omega)
           have q58 : 0 < a1_4.size := (by have : (0 : Int) < (a1_4.size : Int) := of_decide_eq_true (by first | (with_reducible assumption) | assumption); omega)
           have hx58 : ∀ h : 0 < a1_4.size, ((a1_4[0]'h).toNat : Int) = bt a1_4 0 := bt_at a1_4 0
           clear p58
           have qi58 : (0 < (a1_4.size : Int)) = True := eq_true (of_decide_eq_true (by first | (with_reducible assumption) | assumption))
           replace q58 := eq_true q58
           have hnb77 := NB309_308.out; have hnc77 := NB308_309.out; obtain ⟨hcz78_0, hcz78_1, hcz78_2, hcz78_3⟩ := c4 BK309.out; obtain ⟨hfz78_0, hfz78_1, hfz78_2, hfz78_3⟩ := f4 BK309.out; obtain ⟨hcz79_0, hcz79_1, hcz79_2, hcz79_3⟩ := c4 BK308.out; obtain ⟨hfz79_0, hfz79_1, hfz79_2, hfz79_3⟩ := f4 BK308.out
           go_wp2
           refine bodyPost_ret (results_cell_row rfl _ _ gb308 24 #[.int .i64 0, .int .i64 x310001_1, .int .i64 x310002_1, .int .i64 0] (0, 0) _ rfl (by refine pl ?_; refine blk_put (cs := #[.int .i64 0, .int .i64 x310001_1, .int .i64 x310002_1, .int .i64 0]) ?_ 3 _ rfl; refine pl ?_; refine blk_put (cs := #[.int .i64 0, .int .i64 x310001_1, .int .i64 0, .int .i64 0]) ?_ 2 _ rfl; refine pl ?_; refine blk_put (cs := #[.int .i64 0, .int .i64 0, .int .i64 0, .int .i64 0]) ?_ 1 _ rfl; refine pl ?_; refine blk_put (cs := #[.int .i64 0, .int .i64 0, .int .i64 0, .int .i64 0]) ?_ 0 _ rfl; refine pl ?_; exact BK308.out) Tryd.underlying24 rfl (by kernel_rfl)) rfl ?_
           exact ⟨by first | rfl | (simp [errW_none, errW_some] <;> rfl) | (simp only [← hji52]; first | rfl | (simp [errW_none, errW_some] <;> rfl)) | (simp [*, errW_none, errW_some] <;> rfl), by repeat (first | (with_reducible first | exact HB.out | apply below_alloc | apply pw_below_drewN | apply below_drew1 | refine below_set ?_ GE306.out | refine below_set ?_ GE307.out | refine below_set ?_ GE308.out | refine below_set ?_ GE309.out) | exact HB.out)⟩
         ·rw [if_neg c57] at H
          exact absurd H (by simp)
        ·rw [if_neg c56] at H
         have c56b0 : ((bt a0_5 (ji52)) == 13) = false := beq_eq_false_iff_ne.mpr c56
         have c56b1 : ((bt a0_5 (ji52)) != 13) = true := bne_iff_ne.mpr c56
         simp only [Option.some.injEq, Prod.mk.injEq] at H
         obtain ⟨rfl, rfl, rfl, rfl⟩ := H
         have hnb80 := NB306_307.out; have hnc80 := NB307_306.out; have hnb81 := NB306_308.out; have hnc81 := NB308_306.out; have hnb82 := NB306_309.out; have hnc82 := NB309_306.out; obtain ⟨hcz83_0, hcz83_1, hcz83_2, hcz83_3, hcz83_4, hcz83_5⟩ := c6 BK306.out; obtain ⟨hfz83_0, hfz83_1, hfz83_2, hfz83_3, hfz83_4, hfz83_5⟩ := f6 BK306.out; have hnb84 := NB307_308.out; have hnc84 := NB308_307.out; have hnb85 := NB307_309.out; have hnc85 := NB309_307.out; obtain ⟨hcz86_0, hcz86_1, hcz86_2, hcz86_3, hcz86_4, hcz86_5⟩ := c6 BK307.out; obtain ⟨hfz86_0, hfz86_1, hfz86_2, hfz86_3, hfz86_4, hfz86_5⟩ := f6 BK307.out
         have p55 : 0 ≤ ((ji52) : Int) := of_decide_eq_true (by first | (with_reducible assumption) | assumption)
         have q55 : (ji52) < (a0_5.size : Int) := of_decide_eq_true (by first | (with_reducible assumption) | assumption)
         have hx55 := bt_at a0_5 (ji52)
         replace p55 := eq_true p55
         replace q55 := eq_true q55
         have hnb87 := NB309_308.out; have hnc87 := NB308_309.out; obtain ⟨hcz88_0, hcz88_1, hcz88_2, hcz88_3⟩ := c4 BK309.out; obtain ⟨hfz88_0, hfz88_1, hfz88_2, hfz88_3⟩ := f4 BK309.out; obtain ⟨hcz89_0, hcz89_1, hcz89_2, hcz89_3⟩ := c4 BK308.out; obtain ⟨hfz89_0, hfz89_1, hfz89_2, hfz89_3⟩ := f4 BK308.out
         go_wp2
         refine bodyPost_ret (results_cell_row rfl _ _ gb308 24 #[.int .i64 0, .int .i64 x310001_1, .int .i64 x310002_1, .int .i64 0] (0, 0) _ rfl (by refine pl ?_; refine blk_put (cs := #[.int .i64 0, .int .i64 x310001_1, .int .i64 x310002_1, .int .i64 0]) ?_ 3 _ rfl; refine pl ?_; refine blk_put (cs := #[.int .i64 0, .int .i64 x310001_1, .int .i64 0, .int .i64 0]) ?_ 2 _ rfl; refine pl ?_; refine blk_put (cs := #[.int .i64 0, .int .i64 0, .int .i64 0, .int .i64 0]) ?_ 1 _ rfl; refine pl ?_; refine blk_put (cs := #[.int .i64 0, .int .i64 0, .int .i64 0, .int .i64 0]) ?_ 0 _ rfl; refine pl ?_; exact BK308.out) Tryd.underlying24 rfl (by kernel_rfl)) rfl ?_
         exact ⟨by first | rfl | (simp [errW_none, errW_some] <;> rfl) | (simp only [← hji52]; first | rfl | (simp [errW_none, errW_some] <;> rfl)) | (simp [*, errW_none, errW_some] <;> rfl), by repeat (first | (with_reducible first | exact HB.out | apply below_alloc | apply pw_below_drewN | apply below_drew1 | refine below_set ?_ GE306.out | refine below_set ?_ GE307.out | refine below_set ?_ GE308.out | refine below_set ?_ GE309.out) | exact HB.out)⟩
       ·rw [if_neg c54] at H
        exact absurd H (by simp)
      ·rw [if_neg c53] at H
       exact absurd H (by simp)
     ·rw [if_neg c51] at H
      have c51b0 : decide (0 < (a1_4.size : Int)) = false := decide_eq_false c51
      have c51b1 : decide (0 < a1_4.size) = false := decide_eq_false (by omega)
      clear c51
      simp only [Option.some.injEq, Prod.mk.injEq] at H
      obtain ⟨rfl, rfl, rfl, rfl⟩ := H
      have hnb90 := NB306_307.out; have hnc90 := NB307_306.out; have hnb91 := NB306_308.out; have hnc91 := NB308_306.out; have hnb92 := NB306_309.out; have hnc92 := NB309_306.out; obtain ⟨hcz93_0, hcz93_1, hcz93_2, hcz93_3, hcz93_4, hcz93_5⟩ := c6 BK306.out; obtain ⟨hfz93_0, hfz93_1, hfz93_2, hfz93_3, hfz93_4, hfz93_5⟩ := f6 BK306.out; have hnb94 := NB307_308.out; have hnc94 := NB308_307.out; have hnb95 := NB307_309.out; have hnc95 := NB309_307.out; obtain ⟨hcz96_0, hcz96_1, hcz96_2, hcz96_3, hcz96_4, hcz96_5⟩ := c6 BK307.out; obtain ⟨hfz96_0, hfz96_1, hfz96_2, hfz96_3, hfz96_4, hfz96_5⟩ := f6 BK307.out; have hnb97 := NB309_308.out; have hnc97 := NB308_309.out; obtain ⟨hcz98_0, hcz98_1, hcz98_2, hcz98_3⟩ := c4 BK309.out; obtain ⟨hfz98_0, hfz98_1, hfz98_2, hfz98_3⟩ := f4 BK309.out; obtain ⟨hcz99_0, hcz99_1, hcz99_2, hcz99_3⟩ := c4 BK308.out; obtain ⟨hfz99_0, hfz99_1, hfz99_2, hfz99_3⟩ := f4 BK308.out
      go_wp2
      refine bodyPost_ret (results_cell_row rfl _ _ gb308 24 #[.int .i64 0, .int .i64 x310001_1, .int .i64 x310002_1, .int .i64 0] (0, 0) _ rfl (by refine pl ?_; refine blk_put (cs := #[.int .i64 0, .int .i64 x310001_1, .int .i64 x310002_1, .int .i64 0]) ?_ 3 _ rfl; refine pl ?_; refine blk_put (cs := #[.int .i64 0, .int .i64 x310001_1, .int .i64 0, .int .i64 0]) ?_ 2 _ rfl; refine pl ?_; refine blk_put (cs := #[.int .i64 0, .int .i64 0, .int .i64 0, .int .i64 0]) ?_ 1 _ rfl; refine pl ?_; refine blk_put (cs := #[.int .i64 0, .int .i64 0, .int .i64 0, .int .i64 0]) ?_ 0 _ rfl; refine pl ?_; exact BK308.out) Tryd.underlying24 rfl (by kernel_rfl)) rfl ?_
      exact ⟨by first | rfl | (simp [errW_none, errW_some] <;> rfl) | (simp [*, errW_none, errW_some] <;> rfl), by repeat (first | (with_reducible first | exact HB.out | apply below_alloc | apply pw_below_drewN | apply below_drew1 | refine below_set ?_ GE306.out | refine below_set ?_ GE307.out | refine below_set ?_ GE308.out | refine below_set ?_ GE309.out) | exact HB.out)⟩
    ·rw [if_neg c50] at H
     have c50b0 : decide (0 < (a0_5.size : Int)) = false := decide_eq_false c50
     have c50b1 : decide (0 < a0_5.size) = false := decide_eq_false (by omega)
     clear c50
     simp only [Option.some.injEq, Prod.mk.injEq] at H
     obtain ⟨rfl, rfl, rfl, rfl⟩ := H
     have hnb100 := NB306_307.out; have hnc100 := NB307_306.out; have hnb101 := NB306_308.out; have hnc101 := NB308_306.out; have hnb102 := NB306_309.out; have hnc102 := NB309_306.out; obtain ⟨hcz103_0, hcz103_1, hcz103_2, hcz103_3, hcz103_4, hcz103_5⟩ := c6 BK306.out; obtain ⟨hfz103_0, hfz103_1, hfz103_2, hfz103_3, hfz103_4, hfz103_5⟩ := f6 BK306.out; have hnb104 := NB309_307.out; have hnc104 := NB307_309.out; have hnb105 := NB309_308.out; have hnc105 := NB308_309.out; obtain ⟨hcz106_0, hcz106_1, hcz106_2, hcz106_3⟩ := c4 BK309.out; obtain ⟨hfz106_0, hfz106_1, hfz106_2, hfz106_3⟩ := f4 BK309.out; have hnb107 := NB308_307.out; have hnc107 := NB307_308.out; obtain ⟨hcz108_0, hcz108_1, hcz108_2, hcz108_3⟩ := c4 BK308.out; obtain ⟨hfz108_0, hfz108_1, hfz108_2, hfz108_3⟩ := f4 BK308.out
     go_wp2
     refine bodyPost_ret (results_cell_row rfl _ _ gb308 24 #[.int .i64 0, .int .i64 x310001_1, .int .i64 x310002_1, .int .i64 0] (0, 0) _ rfl (by refine pl ?_; refine blk_put (cs := #[.int .i64 0, .int .i64 x310001_1, .int .i64 x310002_1, .int .i64 0]) ?_ 3 _ rfl; refine pl ?_; refine blk_put (cs := #[.int .i64 0, .int .i64 x310001_1, .int .i64 0, .int .i64 0]) ?_ 2 _ rfl; refine pl ?_; refine blk_put (cs := #[.int .i64 0, .int .i64 0, .int .i64 0, .int .i64 0]) ?_ 1 _ rfl; refine pl ?_; refine blk_put (cs := #[.int .i64 0, .int .i64 0, .int .i64 0, .int .i64 0]) ?_ 0 _ rfl; refine pl ?_; exact BK308.out) Tryd.underlying24 rfl (by kernel_rfl)) rfl ?_
     exact ⟨by first | rfl | (simp [errW_none, errW_some] <;> rfl) | (simp [*, errW_none, errW_some] <;> rfl), by repeat (first | (with_reducible first | exact HB.out | apply below_alloc | apply pw_below_drewN | apply below_drew1 | refine below_set ?_ GE306.out | refine below_set ?_ GE307.out | refine below_set ?_ GE308.out | refine below_set ?_ GE309.out) | exact HB.out)⟩
end Go.Proofs.YtaojbcplmdjfnaaDoor.Pr

namespace Go.Proofs.YtaojbcplmdjfnaaDoor.Pr
open Go.RowKit Go.Proofs.YtaojbcplmdjfnaaDoorW.PrintWords Go.Proofs.YtaojbcplmdjfnaaDoorW.PrintLast Go.Proofs.YtaojbcplmdjfnaaDoorW.PrintMore
attribute [local go_sem] max2_int min2_int max_two min_two max_three min_three max_four min_four   -- for this text's walks alone
set_option linter.unusedVariables false
set_option linter.unusedSimpArgs false
mutual
def galleyref05_Join.j0 : Nat → Bool → Int → Int → Int → Int → ByteArray → ByteArray → Int → Int → Int → Int → ByteArray → ByteArray → Option (Int × Int × Int × Int × ByteArray × ByteArray × Int)
 | 0, _, _, _, _, _, _, _, _, _, _, _, _, _ => none
 | k + 1, x15, x319000, x319001, x319002, x319003, x319004, x319005, x320000, x320001, x320002, x320003, x320004, x320005 => if x15 = true then (some (0, 0, 0, 0, (⟨#[]⟩ : ByteArray), (⟨#[]⟩ : ByteArray), 50)) else (if (wrap64 (x319000 + x320000)) > 268435456 then (some (0, 0, 0, 0, (⟨#[]⟩ : ByteArray), (⟨#[]⟩ : ByteArray), 5)) else ((galleyref05_seam.f k x319000 x319001 x319002 x319003 x319004 x319005 x320000 x320001 x320002 x320003 x320004 x320005).bind fun bt323 => (if (x319004.size : Int) < 3 then (if x319004.size + x320004.size ≤ 9223372036854775807 then ((galleyref05_head.f (x319004 ++ x320004)).bind fun t329 => (galleyref05_Join.j1 k x319000 x319001 x319002 x319003 x319004 x319005 x320000 x320001 x320002 x320003 x320004 x320005 bt323.1 bt323.2.1 bt323.2.2.1 bt323.2.2.2 0 0 0 0 t329 x320005)) else (none)) else (galleyref05_Join.j1 k x319000 x319001 x319002 x319003 x319004 x319005 x320000 x320001 x320002 x320003 x320004 x320005 bt323.1 bt323.2.1 bt323.2.2.1 bt323.2.2.2 0 0 0 0 x319004 x320005))))
def galleyref05_Join.j1 : Nat → Int → Int → Int → Int → ByteArray → ByteArray → Int → Int → Int → Int → ByteArray → ByteArray → Int → Int → Int → Int → Int → Int → Int → Int → ByteArray → ByteArray → Option (Int × Int × Int × Int × ByteArray × ByteArray × Int)
 | 0, _, _, _, _, _, _, _, _, _, _, _, _, _, _, _, _, _, _, _, _, _, _ => none
 | k + 1, x319000, x319001, x319002, x319003, x319004, x319005, x320000, x320001, x320002, x320003, x320004, x320005, x328000, x328001, x328002, x328003, x329000, x329001, x329002, x329003, x329004, x329005 => if (x320005.size : Int) < 3 then (if x319005.size + x320005.size ≤ 9223372036854775807 then ((galleyref05_tail.f (x319005 ++ x320005)).bind fun t330 => ((galleyref05_Valid.f k (wrap64 (x319000 + x320000)) (wrap64 ((wrap64 (x319001 + x320001)) - x328001)) (wrap64 ((wrap64 (x319002 + x320002)) - x328002)) (wrap64 ((wrap64 (x319003 + x320003)) - x328003)) x329004 t330).bind fun t331 => (if t331 = true then (some (wrap64 (x319000 + x320000), wrap64 ((wrap64 (x319001 + x320001)) - x328001), wrap64 ((wrap64 (x319002 + x320002)) - x328002), wrap64 ((wrap64 (x319003 + x320003)) - x328003), x329004, t330, 0)) else (some (0, 0, 0, 0, (⟨#[]⟩ : ByteArray), (⟨#[]⟩ : ByteArray), 50))))) else (none)) else ((galleyref05_Valid.f k (wrap64 (x319000 + x320000)) (wrap64 ((wrap64 (x319001 + x320001)) - x328001)) (wrap64 ((wrap64 (x319002 + x320002)) - x328002)) (wrap64 ((wrap64 (x319003 + x320003)) - x328003)) x329004 x329005).bind fun t332 => (if t332 = true then (some (wrap64 (x319000 + x320000), wrap64 ((wrap64 (x319001 + x320001)) - x328001), wrap64 ((wrap64 (x319002 + x320002)) - x328002), wrap64 ((wrap64 (x319003 + x320003)) - x328003), x329004, x329005, 0)) else (some (0, 0, 0, 0, (⟨#[]⟩ : ByteArray), (⟨#[]⟩ : ByteArray), 50))))
end
def galleyref05_Join.f (k : Nat) (a0_0 : Int) (a0_1 : Int) (a0_2 : Int) (a0_3 : Int) (a0_4 : ByteArray) (a0_5 : ByteArray) (a1_0 : Int) (a1_1 : Int) (a1_2 : Int) (a1_3 : Int) (a1_4 : ByteArray) (a1_5 : ByteArray) : Option (Int × Int × Int × Int × ByteArray × ByteArray × Int) := (galleyref05_Valid.f k a0_0 a0_1 a0_2 a0_3 a0_4 a0_5).bind fun t321 => (if t321 = true then ((galleyref05_Valid.f k a1_0 a1_1 a1_2 a1_3 a1_4 a1_5).bind fun t322 => (galleyref05_Join.j0 k (!t322) a0_0 a0_1 a0_2 a0_3 a0_4 a0_5 a1_0 a1_1 a1_2 a1_3 a1_4 a1_5)) else (galleyref05_Join.j0 k true a0_0 a0_1 a0_2 a0_3 a0_4 a0_5 a1_0 a1_1 a1_2 a1_3 a1_4 a1_5))
set_option maxHeartbeats 8000000 in
set_option maxRecDepth 100000 in
theorem galleyref05_Join.calls (k : Nat) (a0_0 : Int) (a0_1 : Int) (a0_2 : Int) (a0_3 : Int) (a0_4 : ByteArray) (a0_5 : ByteArray) (a1_0 : Int) (a1_1 : Int) (a1_2 : Int) (a1_3 : Int) (a1_4 : ByteArray) (a1_5 : ByteArray) (r1 : Int) (r2 : Int) (r3 : Int) (r4 : Int) (r5 : ByteArray) (r6 : ByteArray) (r7 : Int) (w : World) (h : galleyref05_Join.f k a0_0 a0_1 a0_2 a0_3 a0_4 a0_5 a1_0 a1_1 a1_2 a1_3 a1_4 a1_5 = some (r1, r2, r3, r4, r5, r6, r7)) :
  Calls Tryd.prog 18 #[.agg #[.int .i64 a0_0, .int .i64 a0_1, .int .i64 a0_2, .int .i64 a0_3, .string a0_4, .string a0_5], .agg #[.int .i64 a1_0, .int .i64 a1_1, .int .i64 a1_2, .int .i64 a1_3, .string a1_4, .string a1_5]] w fun e w' => e = .returned (.tuple #[.agg #[.int .i64 r1, .int .i64 r2, .int .i64 r3, .int .i64 r4, .string r5, .string r6], .int .i64 r7]) ∧ Below w.heap.size w w' := by
 have hu26 := Tryd.underlying26
 have hu24 := Tryd.underlying24
 have HB := Aside0.mk (Below.refl w.heap.size w)
 have H : ((galleyref05_Valid.f k a0_0 a0_1 a0_2 a0_3 a0_4 a0_5).bind fun t321 => (if t321 = true then ((galleyref05_Valid.f k a1_0 a1_1 a1_2 a1_3 a1_4 a1_5).bind fun t322 => (galleyref05_Join.j0 k (!t322) a0_0 a0_1 a0_2 a0_3 a0_4 a0_5 a1_0 a1_1 a1_2 a1_3 a1_4 a1_5)) else (galleyref05_Join.j0 k true a0_0 a0_1 a0_2 a0_3 a0_4 a0_5 a1_0 a1_1 a1_2 a1_3 a1_4 a1_5))) = some (r1, r2, r3, r4, r5, r6, r7) := h
 clear h; have HC3 := Aside0.mk H; clear H
 go_enter Tryd.func18, Tryd.ntmps18
 go_upto_region 1 with (first | ((with_reducible refine gate_dst (N := 2) rfl ?_); refine box_event ?hg (N := 2) ?hd (cs := #[.int .i64 a0_0, .int .i64 a0_1, .int .i64 a0_2, .int .i64 a0_3, .string a0_4, .string a0_5]) (t := 26) ?hr ?_; (case hd => rfl); (case hg => rfl); (case hr => first | (go_simp; done) | (go_simp; rfl)); intro gb318 hg w4 hbox hb; have BK318 := Aside0.mk (hbox); have GW318 := Aside0.mk ((by rw [hg]; exact (below_size (bl HB.out)) : w.heap.size ≤ gb318)); have GE318 := GW318; replace HB := Aside0.mk (below_step (bl HB.out) hb); clear hb hbox hg) | ((with_reducible refine gate_dst (N := 3) rfl ?_); refine box_event ?hg (N := 3) ?hd (cs := #[.int .i64 a1_0, .int .i64 a1_1, .int .i64 a1_2, .int .i64 a1_3, .string a1_4, .string a1_5]) (t := 26) ?hr ?_; (case hd => rfl); (case hg => rfl); (case hr => first | (go_simp; done) | (go_simp; rfl)); intro gb319 hg w5 hbox hb; have BK319 := Aside0.mk (hbox); have GW319 := Aside0.mk ((by rw [hg]; exact (below_size (by repeat (first | (with_reducible first | exact HB.out | apply below_alloc | apply pw_below_drewN | apply below_drew1 | refine below_set ?_ GE318.out) | exact HB.out))) : w.heap.size ≤ gb319)); have GE319 := GW319; replace HB := Aside0.mk (below_step (by repeat (first | (with_reducible first | exact HB.out | apply below_alloc | apply pw_below_drewN | apply below_drew1 | refine below_set ?_ GE318.out) | exact HB.out)) hb); obtain ⟨NB318_319, NB319_318⟩ := nbp hg (pl BK318.out); replace BK318 := Aside0.mk (blk_below (pl BK318.out) hb); clear hb hbox hg) | ((with_reducible refine gate_dst (N := 4) rfl ?_); refine box_event ?hg (N := 4) ?hd (cs := #[.int .i64 0, .int .i64 0, .int .i64 0, .int .i64 0, .string (⟨#[]⟩ : ByteArray), .string (⟨#[]⟩ : ByteArray)]) (t := 26) ?hr ?_; (case hd => rfl); (case hg => rfl); (case hr => first | (go_simp; done) | (go_simp; rfl)); intro gb320 hg w6 hbox hb; have BK320 := Aside0.mk (hbox); have GW320 := Aside0.mk ((by rw [hg]; exact (below_size (by repeat (first | (with_reducible first | exact HB.out | apply below_alloc | apply pw_below_drewN | apply below_drew1 | refine below_set ?_ GE318.out | refine below_set ?_ GE319.out) | exact HB.out))) : w.heap.size ≤ gb320)); have GE320 := GW320; replace HB := Aside0.mk (below_step (by repeat (first | (with_reducible first | exact HB.out | apply below_alloc | apply pw_below_drewN | apply below_drew1 | refine below_set ?_ GE318.out | refine below_set ?_ GE319.out) | exact HB.out)) hb); obtain ⟨NB318_320, NB320_318⟩ := nbp hg (pl BK318.out); replace BK318 := Aside0.mk (blk_below (pl BK318.out) hb); obtain ⟨NB319_320, NB320_319⟩ := nbp hg (pl BK319.out); replace BK319 := Aside0.mk (blk_below (pl BK319.out) hb); clear hb hbox hg))
 (try simp only [Act.put, List.setIfInBounds_toArray, List.set_cons_zero, List.set_cons_succ])
 go_cut [15] (fun v15 wc => ∃ (kq : Nat) (x15_2 : Bool), v15 = .bool x15_2 ∧ Aside0 (galleyref05_Join.j0 kq x15_2 a0_0 a0_1 a0_2 a0_3 a0_4 a0_5 a1_0 a1_1 a1_2 a1_3 a1_4 a1_5 = some (r1, r2, r3, r4, r5, r6, r7)) ∧ Aside0 (kq ≤ k) ∧ Aside0 (wc.heap[gb318]? = some (.cells #[.int .i64 a0_0, .int .i64 a0_1, .int .i64 a0_2, .int .i64 a0_3, .string a0_4, .string a0_5] 26 (0, 0))) ∧ Aside0 (wc.heap[gb319]? = some (.cells #[.int .i64 a1_0, .int .i64 a1_1, .int .i64 a1_2, .int .i64 a1_3, .string a1_4, .string a1_5] 26 (0, 0))) ∧ Aside0 (wc.heap[gb320]? = some (.cells #[.int .i64 0, .int .i64 0, .int .i64 0, .int .i64 0, .string (⟨#[]⟩ : ByteArray), .string (⟨#[]⟩ : ByteArray)] 26 (0, 0))) ∧ Aside0 (Below w.heap.size w wc))
 case first =>
  have H := HC3.out; clear HC3
  replace H := Option.bind_eq_some_iff.mp H
  obtain ⟨t321, A70, H⟩ := H
  replace H : (if t321 = true then ((galleyref05_Valid.f k a1_0 a1_1 a1_2 a1_3 a1_4 a1_5).bind fun t322 => (galleyref05_Join.j0 k (!t322) a0_0 a0_1 a0_2 a0_3 a0_4 a0_5 a1_0 a1_1 a1_2 a1_3 a1_4 a1_5)) else (galleyref05_Join.j0 k true a0_0 a0_1 a0_2 a0_3 a0_4 a0_5 a1_0 a1_1 a1_2 a1_3 a1_4 a1_5)) = some (r1, r2, r3, r4, r5, r6, r7) := H
  have A7 := Aside0.mk A70; clear A70
  by_cases c8 : t321 = true
  ·subst c8
   have H1 : ((galleyref05_Valid.f k a1_0 a1_1 a1_2 a1_3 a1_4 a1_5).bind fun t322 => (galleyref05_Join.j0 k (!t322) a0_0 a0_1 a0_2 a0_3 a0_4 a0_5 a1_0 a1_1 a1_2 a1_3 a1_4 a1_5)) = some (r1, r2, r3, r4, r5, r6, r7) := by rw [if_pos rfl] at H; exact H
   clear H; have H := H1; clear H1
   replace H := Option.bind_eq_some_iff.mp H
   obtain ⟨t322, A90, H⟩ := H
   replace H : (galleyref05_Join.j0 k (!t322) a0_0 a0_1 a0_2 a0_3 a0_4 a0_5 a1_0 a1_1 a1_2 a1_3 a1_4 a1_5) = some (r1, r2, r3, r4, r5, r6, r7) := H
   have A9 := Aside0.mk A90; clear A90; have H' := Aside0.mk H; clear H; have hnb10 := NB318_319.out; have hnc10 := NB319_318.out; have hnb11 := NB318_320.out; have hnc11 := NB320_318.out; obtain ⟨hcz12_0, hcz12_1, hcz12_2, hcz12_3, hcz12_4, hcz12_5⟩ := c6 BK318.out; obtain ⟨hfz12_0, hfz12_1, hfz12_2, hfz12_3, hfz12_4, hfz12_5⟩ := f6 BK318.out
   go_wp2_with (first | ((with_reducible refine gate_callee (f := 16) rfl ?_); refine goesL_ (some 9) rfl rfl Tryd.func16 (by kernel_rfl) rfl #[.agg #[.int .i64 a0_0, .int .i64 a0_1, .int .i64 a0_2, .int .i64 a0_3, .string a0_4, .string a0_5]] rfl (by (try simp only [List.map_toArray, List.map_cons, List.map_nil]); first | done | rfl | (simp only [List.length_drop, List.length_take]; rfl)) ?_; (with_reducible refine (galleyref05_Valid.calls k a0_0 a0_1 a0_2 a0_3 a0_4 a0_5 true _ A7.out).mono ?_); rintro e w13 ⟨rfl, hb⟩; refine ⟨_, rfl, ?_⟩; replace BK318 := Aside0.mk (blk_below (pl BK318.out) hb); replace BK319 := Aside0.mk (blk_below (pl BK319.out) hb); replace BK320 := Aside0.mk (blk_below (pl BK320.out) hb); replace HB := Aside0.mk (below_step (by repeat (first | (with_reducible first | exact HB.out | apply below_alloc | apply pw_below_drewN | apply below_drew1 | refine below_set ?_ GE318.out | refine below_set ?_ GE319.out | refine below_set ?_ GE320.out) | exact HB.out)) hb); (try clear hb); (try clear hb2); (try clear hk); (try clear hi); have hnb14 := NB319_320.out; have hnc14 := NB320_319.out; obtain ⟨hcz15_0, hcz15_1, hcz15_2, hcz15_3, hcz15_4, hcz15_5⟩ := c6 BK319.out; obtain ⟨hfz15_0, hfz15_1, hfz15_2, hfz15_3, hfz15_4, hfz15_5⟩ := f6 BK319.out) | (go_at_call 16; (with_reducible refine (galleyref05_Valid.calls k a1_0 a1_1 a1_2 a1_3 a1_4 a1_5 t322 _ A9.out).mono ?_); rintro e w16 ⟨rfl, hb⟩; replace BK318 := Aside0.mk (blk_below (pl BK318.out) hb); replace BK319 := Aside0.mk (blk_below (pl BK319.out) hb); replace BK320 := Aside0.mk (blk_below (pl BK320.out) hb); replace HB := Aside0.mk (below_step (by repeat (first | (with_reducible first | exact HB.out | apply below_alloc | apply pw_below_drewN | apply below_drew1 | refine below_set ?_ GE318.out | refine below_set ?_ GE319.out | refine below_set ?_ GE320.out) | exact HB.out)) hb); (try clear hb); (try clear hb2); (try clear hk); (try clear hi)))
   go_meet
   case rel => exact ⟨_, (!t322), (by first | rfl | (simp; done) | (simp [*]; done)), H', ⟨by first | omega | exact Nat.le_refl _⟩, ⟨pl BK318.out⟩, ⟨pl BK319.out⟩, ⟨pl BK320.out⟩, ⟨by repeat (first | (with_reducible first | exact HB.out | apply below_alloc | apply pw_below_drewN | apply below_drew1 | refine below_set ?_ GE318.out | refine below_set ?_ GE319.out | refine below_set ?_ GE320.out) | exact HB.out)⟩⟩
  ·replace c8 := Bool.eq_false_iff.mpr c8
   subst c8
   have H1 : (galleyref05_Join.j0 k true a0_0 a0_1 a0_2 a0_3 a0_4 a0_5 a1_0 a1_1 a1_2 a1_3 a1_4 a1_5) = some (r1, r2, r3, r4, r5, r6, r7) := by rw [if_neg (show ¬ (false = true) by decide)] at H; exact H
   clear H; have H := H1; clear H1; have H' := Aside0.mk H; clear H; have hnb17 := NB318_319.out; have hnc17 := NB319_318.out; have hnb18 := NB318_320.out; have hnc18 := NB320_318.out; obtain ⟨hcz19_0, hcz19_1, hcz19_2, hcz19_3, hcz19_4, hcz19_5⟩ := c6 BK318.out; obtain ⟨hfz19_0, hfz19_1, hfz19_2, hfz19_3, hfz19_4, hfz19_5⟩ := f6 BK318.out
   go_wp2_with (first | ((with_reducible refine gate_callee (f := 16) rfl ?_); refine goesL_ (some 9) rfl rfl Tryd.func16 (by kernel_rfl) rfl #[.agg #[.int .i64 a0_0, .int .i64 a0_1, .int .i64 a0_2, .int .i64 a0_3, .string a0_4, .string a0_5]] rfl (by (try simp only [List.map_toArray, List.map_cons, List.map_nil]); first | done | rfl | (simp only [List.length_drop, List.length_take]; rfl)) ?_; (with_reducible refine (galleyref05_Valid.calls k a0_0 a0_1 a0_2 a0_3 a0_4 a0_5 false _ A7.out).mono ?_); rintro e w20 ⟨rfl, hb⟩; refine ⟨_, rfl, ?_⟩; replace BK318 := Aside0.mk (blk_below (pl BK318.out) hb); replace BK319 := Aside0.mk (blk_below (pl BK319.out) hb); replace BK320 := Aside0.mk (blk_below (pl BK320.out) hb); replace HB := Aside0.mk (below_step (by repeat (first | (with_reducible first | exact HB.out | apply below_alloc | apply pw_below_drewN | apply below_drew1 | refine below_set ?_ GE318.out | refine below_set ?_ GE319.out | refine below_set ?_ GE320.out) | exact HB.out)) hb); (try clear hb); (try clear hb2); (try clear hk); (try clear hi)))
   go_meet
   case rel => exact ⟨_, (true), (by first | rfl | (simp; done) | (simp [*]; done)), H', ⟨by first | omega | exact Nat.le_refl _⟩, ⟨pl BK318.out⟩, ⟨pl BK319.out⟩, ⟨pl BK320.out⟩, ⟨by repeat (first | (with_reducible first | exact HB.out | apply below_alloc | apply pw_below_drewN | apply below_drew1 | refine below_set ?_ GE318.out | refine below_set ?_ GE319.out | refine below_set ?_ GE320.out) | exact HB.out)⟩⟩
 case rest =>
  clear HC3; (try clear c1); (try clear p2); (try clear c8); (try clear c10); (try clear c11); (try clear c14); (try clear c16); (try clear c17); (try clear c18); (try clear hcz12_0); (try clear hcz12_1); (try clear hcz12_2); (try clear hcz12_3); (try clear hcz12_4); (try clear hcz12_5); (try clear hcz15_0); (try clear hcz15_1); (try clear hcz15_2); (try clear hcz15_3); (try clear hcz15_4); (try clear hcz15_5); (try clear hcz19_0); (try clear hcz19_1); (try clear hcz19_2); (try clear hcz19_3); (try clear hcz19_4); (try clear hcz19_5); (try clear hfz12_0); (try clear hfz12_1); (try clear hfz12_2); (try clear hfz12_3); (try clear hfz12_4); (try clear hfz12_5); (try clear hfz15_0); (try clear hfz15_1); (try clear hfz15_2); (try clear hfz15_3); (try clear hfz15_4); (try clear hfz15_5); (try clear hfz19_0); (try clear hfz19_1); (try clear hfz19_2); (try clear hfz19_3); (try clear hfz19_4); (try clear hfz19_5)
  obtain ⟨kq, x15_2, rfl, HA, HJ2, BK318, BK319, BK320, HB⟩ := hcut
  cases kq with
  | zero => exact absurd HA.out (by simp [galleyref05_Join.j0])
  | succ kj2 =>
   have H := HA.out; clear HA
   simp only [galleyref05_Join.j0] at H
   by_cases c21 : x15_2 = true
   ·subst c21
    have H1 : (some (0, 0, 0, 0, (⟨#[]⟩ : ByteArray), (⟨#[]⟩ : ByteArray), 50)) = some (r1, r2, r3, r4, r5, r6, r7) := by rw [if_pos rfl] at H; exact H
    clear H; have H := H1; clear H1
    simp only [Option.some.injEq, Prod.mk.injEq] at H
    obtain ⟨rfl, rfl, rfl, rfl, rfl, rfl, rfl⟩ := H
    have hnb22 := NB320_318.out; have hnc22 := NB318_320.out; have hnb23 := NB320_319.out; have hnc23 := NB319_320.out; obtain ⟨hcz24_0, hcz24_1, hcz24_2, hcz24_3, hcz24_4, hcz24_5⟩ := c6 BK320.out; obtain ⟨hfz24_0, hfz24_1, hfz24_2, hfz24_3, hfz24_4, hfz24_5⟩ := f6 BK320.out
    go_wp2
    refine bodyPost_ret (results_ct rfl _ _ gb320 26 #[.int .i64 0, .int .i64 0, .int .i64 0, .int .i64 0, .string (⟨#[]⟩ : ByteArray), .string (⟨#[]⟩ : ByteArray)] (0, 0) _ rfl (by refine pl ?_; refine blk_put (cs := #[.int .i64 0, .int .i64 0, .int .i64 0, .int .i64 0, .string (⟨#[]⟩ : ByteArray), .string (⟨#[]⟩ : ByteArray)]) ?_ 5 _ rfl; refine pl ?_; refine blk_put (cs := #[.int .i64 0, .int .i64 0, .int .i64 0, .int .i64 0, .string (⟨#[]⟩ : ByteArray), .string (⟨#[]⟩ : ByteArray)]) ?_ 4 _ rfl; refine pl ?_; refine blk_put (cs := #[.int .i64 0, .int .i64 0, .int .i64 0, .int .i64 0, .string (⟨#[]⟩ : ByteArray), .string (⟨#[]⟩ : ByteArray)]) ?_ 3 _ rfl; refine pl ?_; refine blk_put (cs := #[.int .i64 0, .int .i64 0, .int .i64 0, .int .i64 0, .string (⟨#[]⟩ : ByteArray), .string (⟨#[]⟩ : ByteArray)]) ?_ 2 _ rfl; refine pl ?_; refine blk_put (cs := #[.int .i64 0, .int .i64 0, .int .i64 0, .int .i64 0, .string (⟨#[]⟩ : ByteArray), .string (⟨#[]⟩ : ByteArray)]) ?_ 1 _ rfl; refine pl ?_; refine blk_put (cs := #[.int .i64 0, .int .i64 0, .int .i64 0, .int .i64 0, .string (⟨#[]⟩ : ByteArray), .string (⟨#[]⟩ : ByteArray)]) ?_ 0 _ rfl; refine pl ?_; exact BK320.out) Tryd.underlying26 rfl (by kernel_rfl)) rfl ?_
    exact ⟨by first | rfl | (simp [errW_none, errW_some] <;> rfl) | (simp [*, errW_none, errW_some] <;> rfl), by repeat (first | (with_reducible first | exact HB.out | apply below_alloc | apply pw_below_drewN | apply below_drew1 | refine below_set ?_ GE318.out | refine below_set ?_ GE319.out | refine below_set ?_ GE320.out) | exact HB.out)⟩
   ·replace c21 := Bool.eq_false_iff.mpr c21
    subst c21
    have H1 : (if (wrap64 (a0_0 + a1_0)) > 268435456 then (some (0, 0, 0, 0, (⟨#[]⟩ : ByteArray), (⟨#[]⟩ : ByteArray), 5)) else ((galleyref05_seam.f kj2 a0_0 a0_1 a0_2 a0_3 a0_4 a0_5 a1_0 a1_1 a1_2 a1_3 a1_4 a1_5).bind fun bt323 => (if (a0_4.size : Int) < 3 then (if a0_4.size + a1_4.size ≤ 9223372036854775807 then ((galleyref05_head.f (a0_4 ++ a1_4)).bind fun t329 => (galleyref05_Join.j1 kj2 a0_0 a0_1 a0_2 a0_3 a0_4 a0_5 a1_0 a1_1 a1_2 a1_3 a1_4 a1_5 bt323.1 bt323.2.1 bt323.2.2.1 bt323.2.2.2 0 0 0 0 t329 a1_5)) else (none)) else (galleyref05_Join.j1 kj2 a0_0 a0_1 a0_2 a0_3 a0_4 a0_5 a1_0 a1_1 a1_2 a1_3 a1_4 a1_5 bt323.1 bt323.2.1 bt323.2.2.1 bt323.2.2.2 0 0 0 0 a0_4 a1_5)))) = some (r1, r2, r3, r4, r5, r6, r7) := by rw [if_neg (show ¬ (false = true) by decide)] at H; exact H
    clear H; have H := H1; clear H1
    by_cases c25 : (wrap64 (a0_0 + a1_0)) > 268435456
    ·rw [if_pos c25] at H
     have c25b0 : decide (268435456 < (wrap64 (a0_0 + a1_0))) = true := decide_eq_true c25
     clear c25
     simp only [Option.some.injEq, Prod.mk.injEq] at H
     obtain ⟨rfl, rfl, rfl, rfl, rfl, rfl, rfl⟩ := H
     have hnb26 := NB318_319.out; have hnc26 := NB319_318.out; have hnb27 := NB318_320.out; have hnc27 := NB320_318.out; obtain ⟨hcz28_0, hcz28_1, hcz28_2, hcz28_3, hcz28_4, hcz28_5⟩ := c6 BK318.out; obtain ⟨hfz28_0, hfz28_1, hfz28_2, hfz28_3, hfz28_4, hfz28_5⟩ := f6 BK318.out; have hnb29 := NB319_320.out; have hnc29 := NB320_319.out; obtain ⟨hcz30_0, hcz30_1, hcz30_2, hcz30_3, hcz30_4, hcz30_5⟩ := c6 BK319.out; obtain ⟨hfz30_0, hfz30_1, hfz30_2, hfz30_3, hfz30_4, hfz30_5⟩ := f6 BK319.out; obtain ⟨hcz31_0, hcz31_1, hcz31_2, hcz31_3, hcz31_4, hcz31_5⟩ := c6 BK320.out; obtain ⟨hfz31_0, hfz31_1, hfz31_2, hfz31_3, hfz31_4, hfz31_5⟩ := f6 BK320.out
     go_wp2
     refine bodyPost_ret (results_ct rfl _ _ gb320 26 #[.int .i64 0, .int .i64 0, .int .i64 0, .int .i64 0, .string (⟨#[]⟩ : ByteArray), .string (⟨#[]⟩ : ByteArray)] (0, 0) _ rfl (by refine pl ?_; refine blk_put (cs := #[.int .i64 0, .int .i64 0, .int .i64 0, .int .i64 0, .string (⟨#[]⟩ : ByteArray), .string (⟨#[]⟩ : ByteArray)]) ?_ 5 _ rfl; refine pl ?_; refine blk_put (cs := #[.int .i64 0, .int .i64 0, .int .i64 0, .int .i64 0, .string (⟨#[]⟩ : ByteArray), .string (⟨#[]⟩ : ByteArray)]) ?_ 4 _ rfl; refine pl ?_; refine blk_put (cs := #[.int .i64 0, .int .i64 0, .int .i64 0, .int .i64 0, .string (⟨#[]⟩ : ByteArray), .string (⟨#[]⟩ : ByteArray)]) ?_ 3 _ rfl; refine pl ?_; refine blk_put (cs := #[.int .i64 0, .int .i64 0, .int .i64 0, .int .i64 0, .string (⟨#[]⟩ : ByteArray), .string (⟨#[]⟩ : ByteArray)]) ?_ 2 _ rfl; refine pl ?_; refine blk_put (cs := #[.int .i64 0, .int .i64 0, .int .i64 0, .int .i64 0, .string (⟨#[]⟩ : ByteArray), .string (⟨#[]⟩ : ByteArray)]) ?_ 1 _ rfl; refine pl ?_; refine blk_put (cs := #[.int .i64 0, .int .i64 0, .int .i64 0, .int .i64 0, .string (⟨#[]⟩ : ByteArray), .string (⟨#[]⟩ : ByteArray)]) ?_ 0 _ rfl; refine pl ?_; exact BK320.out) Tryd.underlying26 rfl (by kernel_rfl)) rfl ?_
     exact ⟨by first | rfl | (simp [errW_none, errW_some] <;> rfl) | (simp [*, errW_none, errW_some] <;> rfl), by repeat (first | (with_reducible first | exact HB.out | apply below_alloc | apply pw_below_drewN | apply below_drew1 | refine below_set ?_ GE318.out | refine below_set ?_ GE319.out | refine below_set ?_ GE320.out) | exact HB.out)⟩
    ·rw [if_neg c25] at H
     have c25b0 : decide (268435456 < (wrap64 (a0_0 + a1_0))) = false := decide_eq_false c25
     clear c25
     replace H := Option.bind_eq_some_iff.mp H
     obtain ⟨⟨t323, t324, t325, t326⟩, A320, H⟩ := H
     replace H : (if (a0_4.size : Int) < 3 then (if a0_4.size + a1_4.size ≤ 9223372036854775807 then ((galleyref05_head.f (a0_4 ++ a1_4)).bind fun t329 => (galleyref05_Join.j1 kj2 a0_0 a0_1 a0_2 a0_3 a0_4 a0_5 a1_0 a1_1 a1_2 a1_3 a1_4 a1_5 t323 t324 t325 t326 0 0 0 0 t329 a1_5)) else (none)) else (galleyref05_Join.j1 kj2 a0_0 a0_1 a0_2 a0_3 a0_4 a0_5 a1_0 a1_1 a1_2 a1_3 a1_4 a1_5 t323 t324 t325 t326 0 0 0 0 a0_4 a1_5)) = some (r1, r2, r3, r4, r5, r6, r7) := H
     have A32 := Aside0.mk A320; clear A320; have HC33 := Aside0.mk H; clear H; have hnb34 := NB318_319.out; have hnc34 := NB319_318.out; have hnb35 := NB318_320.out; have hnc35 := NB320_318.out; obtain ⟨hcz36_0, hcz36_1, hcz36_2, hcz36_3, hcz36_4, hcz36_5⟩ := c6 BK318.out; obtain ⟨hfz36_0, hfz36_1, hfz36_2, hfz36_3, hfz36_4, hfz36_5⟩ := f6 BK318.out; have hnb37 := NB319_320.out; have hnc37 := NB320_319.out; obtain ⟨hcz38_0, hcz38_1, hcz38_2, hcz38_3, hcz38_4, hcz38_5⟩ := c6 BK319.out; obtain ⟨hfz38_0, hfz38_1, hfz38_2, hfz38_3, hfz38_4, hfz38_5⟩ := f6 BK319.out
     go_upto_if 37 with (first | ((with_reducible refine gate_callee (f := 33) rfl ?_); refine goesL_ (some 28) rfl rfl Tryd.func33 (by kernel_rfl) rfl #[.agg #[.int .i64 a0_0, .int .i64 a0_1, .int .i64 a0_2, .int .i64 a0_3, .string a0_4, .string a0_5], .agg #[.int .i64 a1_0, .int .i64 a1_1, .int .i64 a1_2, .int .i64 a1_3, .string a1_4, .string a1_5]] rfl (by (try simp only [List.map_toArray, List.map_cons, List.map_nil]); first | done | rfl | (simp only [List.length_drop, List.length_take]; rfl)) ?_; (with_reducible refine (galleyref05_seam.calls kj2 a0_0 a0_1 a0_2 a0_3 a0_4 a0_5 a1_0 a1_1 a1_2 a1_3 a1_4 a1_5 t323 t324 t325 t326 _ A32.out).mono ?_); rintro e w39 ⟨rfl, hb⟩; refine ⟨_, rfl, ?_⟩; replace BK318 := Aside0.mk (blk_below (pl BK318.out) hb); replace BK319 := Aside0.mk (blk_below (pl BK319.out) hb); replace BK320 := Aside0.mk (blk_below (pl BK320.out) hb); replace HB := Aside0.mk (below_step (by repeat (first | (with_reducible first | exact HB.out | apply below_alloc | apply pw_below_drewN | apply below_drew1 | refine below_set ?_ GE318.out | refine below_set ?_ GE319.out | refine below_set ?_ GE320.out) | exact HB.out)) hb); (try clear hb); (try clear hb2); (try clear hk); (try clear hi)) | ((with_reducible refine gate_dst (N := 6) rfl ?_); refine box_event ?hg (N := 6) ?hd (cs := #[.int .i64 0, .int .i64 0, .int .i64 0, .int .i64 0]) (t := 24) ?hr ?_; (case hd => rfl); (case hg => rfl); (case hr => first | (go_simp; done) | (go_simp; rfl)); intro gb327 hg w40 hbox hb; have BK327 := Aside0.mk (hbox); have GW327 := Aside0.mk ((by rw [hg]; exact (below_size (by repeat (first | (with_reducible first | exact HB.out | apply below_alloc | apply pw_below_drewN | apply below_drew1 | refine below_set ?_ GE318.out | refine below_set ?_ GE319.out | refine below_set ?_ GE320.out) | exact HB.out))) : w.heap.size ≤ gb327)); have GE327 := GW327; replace HB := Aside0.mk (below_step (by repeat (first | (with_reducible first | exact HB.out | apply below_alloc | apply pw_below_drewN | apply below_drew1 | refine below_set ?_ GE318.out | refine below_set ?_ GE319.out | refine below_set ?_ GE320.out) | exact HB.out)) hb); obtain ⟨NB318_327, NB327_318⟩ := nbp hg (pl BK318.out); replace BK318 := Aside0.mk (blk_below (pl BK318.out) hb); obtain ⟨NB319_327, NB327_319⟩ := nbp hg (pl BK319.out); replace BK319 := Aside0.mk (blk_below (pl BK319.out) hb); obtain ⟨NB320_327, NB327_320⟩ := nbp hg (pl BK320.out); replace BK320 := Aside0.mk (blk_below (pl BK320.out) hb); clear hb hbox hg; have hnb41 := NB327_318.out; have hnc41 := NB318_327.out; have hnb42 := NB327_319.out; have hnc42 := NB319_327.out; have hnb43 := NB327_320.out; have hnc43 := NB320_327.out; obtain ⟨hcz44_0, hcz44_1, hcz44_2, hcz44_3⟩ := c4 BK327.out; obtain ⟨hfz44_0, hfz44_1, hfz44_2, hfz44_3⟩ := f4 BK327.out; obtain ⟨hcz45_0, hcz45_1, hcz45_2, hcz45_3, hcz45_4, hcz45_5⟩ := c6 BK318.out; obtain ⟨hfz45_0, hfz45_1, hfz45_2, hfz45_3, hfz45_4, hfz45_5⟩ := f6 BK318.out; obtain ⟨hcz46_0, hcz46_1, hcz46_2, hcz46_3, hcz46_4, hcz46_5⟩ := c6 BK319.out; obtain ⟨hfz46_0, hfz46_1, hfz46_2, hfz46_3, hfz46_4, hfz46_5⟩ := f6 BK319.out) | ((with_reducible refine gate_dst (N := 7) rfl ?_); refine box_event ?hg (N := 7) ?hd (cs := #[.int .i64 0, .int .i64 0, .int .i64 0, .int .i64 0, .string (⟨#[]⟩ : ByteArray), .string (⟨#[]⟩ : ByteArray)]) (t := 26) ?hr ?_; (case hd => rfl); (case hg => rfl); (case hr => first | (go_simp; done) | (go_simp; rfl)); intro gb328 hg w47 hbox hb; have BK328 := Aside0.mk (hbox); have GW328 := Aside0.mk ((by rw [hg]; exact (below_size (by repeat (first | (with_reducible first | exact HB.out | apply below_alloc | apply pw_below_drewN | apply below_drew1 | refine below_set ?_ GE318.out | refine below_set ?_ GE319.out | refine below_set ?_ GE320.out | refine below_set ?_ GE327.out) | exact HB.out))) : w.heap.size ≤ gb328)); have GE328 := GW328; replace HB := Aside0.mk (below_step (by repeat (first | (with_reducible first | exact HB.out | apply below_alloc | apply pw_below_drewN | apply below_drew1 | refine below_set ?_ GE318.out | refine below_set ?_ GE319.out | refine below_set ?_ GE320.out | refine below_set ?_ GE327.out) | exact HB.out)) hb); have NB318_328 := Aside0.mk ((by rw [hg]; exact Nat.ne_of_lt (blk_lt (g := gb318) (o := .cells #[.int .i64 a0_0, .int .i64 a0_1, .int .i64 a0_2, .int .i64 a0_3, .string a0_4, .string a0_5] 26 (0, 0)) (by refine pl ?_; refine blk_far ?_ NB318_327.out _; refine pl ?_; refine blk_far ?_ NB318_327.out _; refine pl ?_; refine blk_far ?_ NB318_327.out _; refine pl ?_; refine blk_far ?_ NB318_327.out _; refine pl ?_; exact BK318.out)) : gb318 ≠ gb328)); have NB328_318 := Aside0.mk ((by rw [hg]; exact Nat.ne_of_gt (blk_lt (g := gb318) (o := .cells #[.int .i64 a0_0, .int .i64 a0_1, .int .i64 a0_2, .int .i64 a0_3, .string a0_4, .string a0_5] 26 (0, 0)) (by refine pl ?_; refine blk_far ?_ NB318_327.out _; refine pl ?_; refine blk_far ?_ NB318_327.out _; refine pl ?_; refine blk_far ?_ NB318_327.out _; refine pl ?_; refine blk_far ?_ NB318_327.out _; refine pl ?_; exact BK318.out)) : gb328 ≠ gb318)); replace BK318 := Aside0.mk (blk_below (g := gb318) (o := .cells #[.int .i64 a0_0, .int .i64 a0_1, .int .i64 a0_2, .int .i64 a0_3, .string a0_4, .string a0_5] 26 (0, 0)) (by refine pl ?_; refine blk_far ?_ NB318_327.out _; refine pl ?_; refine blk_far ?_ NB318_327.out _; refine pl ?_; refine blk_far ?_ NB318_327.out _; refine pl ?_; refine blk_far ?_ NB318_327.out _; refine pl ?_; exact BK318.out) hb); have NB319_328 := Aside0.mk ((by rw [hg]; exact Nat.ne_of_lt (blk_lt (g := gb319) (o := .cells #[.int .i64 a1_0, .int .i64 a1_1, .int .i64 a1_2, .int .i64 a1_3, .string a1_4, .string a1_5] 26 (0, 0)) (by refine pl ?_; refine blk_far ?_ NB319_327.out _; refine pl ?_; refine blk_far ?_ NB319_327.out _; refine pl ?_; refine blk_far ?_ NB319_327.out _; refine pl ?_; refine blk_far ?_ NB319_327.out _; refine pl ?_; exact BK319.out)) : gb319 ≠ gb328)); have NB328_319 := Aside0.mk ((by rw [hg]; exact Nat.ne_of_gt (blk_lt (g := gb319) (o := .cells #[.int .i64 a1_0, .int .i64 a1_1, .int .i64 a1_2, .int .i64 a1_3, .string a1_4, .string a1_5] 26 (0, 0)) (by refine pl ?_; refine blk_far ?_ NB319_327.out _; refine pl ?_; refine blk_far ?_ NB319_327.out _; refine pl ?_; refine blk_far ?_ NB319_327.out _; refine pl ?_; refine blk_far ?_ NB319_327.out _; refine pl ?_; exact BK319.out)) : gb328 ≠ gb319)); replace BK319 := Aside0.mk (blk_below (g := gb319) (o := .cells #[.int .i64 a1_0, .int .i64 a1_1, .int .i64 a1_2, .int .i64 a1_3, .string a1_4, .string a1_5] 26 (0, 0)) (by refine pl ?_; refine blk_far ?_ NB319_327.out _; refine pl ?_; refine blk_far ?_ NB319_327.out _; refine pl ?_; refine blk_far ?_ NB319_327.out _; refine pl ?_; refine blk_far ?_ NB319_327.out _; refine pl ?_; exact BK319.out) hb); have NB320_328 := Aside0.mk ((by rw [hg]; exact Nat.ne_of_lt (blk_lt (g := gb320) (o := .cells #[.int .i64 0, .int .i64 0, .int .i64 0, .int .i64 0, .string (⟨#[]⟩ : ByteArray), .string (⟨#[]⟩ : ByteArray)] 26 (0, 0)) (by refine pl ?_; refine blk_far ?_ NB320_327.out _; refine pl ?_; refine blk_far ?_ NB320_327.out _; refine pl ?_; refine blk_far ?_ NB320_327.out _; refine pl ?_; refine blk_far ?_ NB320_327.out _; refine pl ?_; exact BK320.out)) : gb320 ≠ gb328)); have NB328_320 := Aside0.mk ((by rw [hg]; exact Nat.ne_of_gt (blk_lt (g := gb320) (o := .cells #[.int .i64 0, .int .i64 0, .int .i64 0, .int .i64 0, .string (⟨#[]⟩ : ByteArray), .string (⟨#[]⟩ : ByteArray)] 26 (0, 0)) (by refine pl ?_; refine blk_far ?_ NB320_327.out _; refine pl ?_; refine blk_far ?_ NB320_327.out _; refine pl ?_; refine blk_far ?_ NB320_327.out _; refine pl ?_; refine blk_far ?_ NB320_327.out _; refine pl ?_; exact BK320.out)) : gb328 ≠ gb320)); replace BK320 := Aside0.mk (blk_below (g := gb320) (o := .cells #[.int .i64 0, .int .i64 0, .int .i64 0, .int .i64 0, .string (⟨#[]⟩ : ByteArray), .string (⟨#[]⟩ : ByteArray)] 26 (0, 0)) (by refine pl ?_; refine blk_far ?_ NB320_327.out _; refine pl ?_; refine blk_far ?_ NB320_327.out _; refine pl ?_; refine blk_far ?_ NB320_327.out _; refine pl ?_; refine blk_far ?_ NB320_327.out _; refine pl ?_; exact BK320.out) hb); have NB327_328 := Aside0.mk ((by rw [hg]; exact Nat.ne_of_lt (blk_lt (g := gb327) (o := .cells #[.int .i64 t323, .int .i64 t324, .int .i64 t325, .int .i64 t326] 24 (0, 0)) (by refine pl ?_; refine blk_put (cs := #[.int .i64 t323, .int .i64 t324, .int .i64 t325, .int .i64 0]) ?_ 3 _ rfl; refine pl ?_; refine blk_put (cs := #[.int .i64 t323, .int .i64 t324, .int .i64 0, .int .i64 0]) ?_ 2 _ rfl; refine pl ?_; refine blk_put (cs := #[.int .i64 t323, .int .i64 0, .int .i64 0, .int .i64 0]) ?_ 1 _ rfl; refine pl ?_; refine blk_put (cs := #[.int .i64 0, .int .i64 0, .int .i64 0, .int .i64 0]) ?_ 0 _ rfl; refine pl ?_; exact BK327.out)) : gb327 ≠ gb328)); have NB328_327 := Aside0.mk ((by rw [hg]; exact Nat.ne_of_gt (blk_lt (g := gb327) (o := .cells #[.int .i64 t323, .int .i64 t324, .int .i64 t325, .int .i64 t326] 24 (0, 0)) (by refine pl ?_; refine blk_put (cs := #[.int .i64 t323, .int .i64 t324, .int .i64 t325, .int .i64 0]) ?_ 3 _ rfl; refine pl ?_; refine blk_put (cs := #[.int .i64 t323, .int .i64 t324, .int .i64 0, .int .i64 0]) ?_ 2 _ rfl; refine pl ?_; refine blk_put (cs := #[.int .i64 t323, .int .i64 0, .int .i64 0, .int .i64 0]) ?_ 1 _ rfl; refine pl ?_; refine blk_put (cs := #[.int .i64 0, .int .i64 0, .int .i64 0, .int .i64 0]) ?_ 0 _ rfl; refine pl ?_; exact BK327.out)) : gb328 ≠ gb327)); replace BK327 := Aside0.mk (blk_below (g := gb327) (o := .cells #[.int .i64 t323, .int .i64 t324, .int .i64 t325, .int .i64 t326] 24 (0, 0)) (by refine pl ?_; refine blk_put (cs := #[.int .i64 t323, .int .i64 t324, .int .i64 t325, .int .i64 0]) ?_ 3 _ rfl; refine pl ?_; refine blk_put (cs := #[.int .i64 t323, .int .i64 t324, .int .i64 0, .int .i64 0]) ?_ 2 _ rfl; refine pl ?_; refine blk_put (cs := #[.int .i64 t323, .int .i64 0, .int .i64 0, .int .i64 0]) ?_ 1 _ rfl; refine pl ?_; refine blk_put (cs := #[.int .i64 0, .int .i64 0, .int .i64 0, .int .i64 0]) ?_ 0 _ rfl; refine pl ?_; exact BK327.out) hb); clear hb hbox hg; have hnb48 := NB328_318.out; have hnc48 := NB318_328.out; have hnb49 := NB328_319.out; have hnc49 := NB319_328.out; have hnb50 := NB328_320.out; have hnc50 := NB320_328.out; have hnb51 := NB328_327.out; have hnc51 := NB327_328.out; obtain ⟨hcz52_0, hcz52_1, hcz52_2, hcz52_3, hcz52_4, hcz52_5⟩ := c6 BK328.out; obtain ⟨hfz52_0, hfz52_1, hfz52_2, hfz52_3, hfz52_4, hfz52_5⟩ := f6 BK328.out; obtain ⟨hcz53_0, hcz53_1, hcz53_2, hcz53_3, hcz53_4, hcz53_5⟩ := c6 BK318.out; obtain ⟨hfz53_0, hfz53_1, hfz53_2, hfz53_3, hfz53_4, hfz53_5⟩ := f6 BK318.out))
     (try simp only [Act.put, List.setIfInBounds_toArray, List.set_cons_zero, List.set_cons_succ])
     go_cut [] (fun wc => ∃ (kq : Nat) (x329004_32 : ByteArray), Aside0 (galleyref05_Join.j1 kq a0_0 a0_1 a0_2 a0_3 a0_4 a0_5 a1_0 a1_1 a1_2 a1_3 a1_4 a1_5 t323 t324 t325 t326 0 0 0 0 x329004_32 a1_5 = some (r1, r2, r3, r4, r5, r6, r7)) ∧ Aside0 (kq ≤ kj2) ∧ Aside0 (wc.heap[gb318]? = some (.cells #[.int .i64 a0_0, .int .i64 a0_1, .int .i64 a0_2, .int .i64 a0_3, .string a0_4, .string a0_5] 26 (0, 0))) ∧ Aside0 (wc.heap[gb319]? = some (.cells #[.int .i64 a1_0, .int .i64 a1_1, .int .i64 a1_2, .int .i64 a1_3, .string a1_4, .string a1_5] 26 (0, 0))) ∧ Aside0 (wc.heap[gb320]? = some (.cells #[.int .i64 0, .int .i64 0, .int .i64 0, .int .i64 0, .string (⟨#[]⟩ : ByteArray), .string (⟨#[]⟩ : ByteArray)] 26 (0, 0))) ∧ Aside0 (wc.heap[gb327]? = some (.cells #[.int .i64 t323, .int .i64 t324, .int .i64 t325, .int .i64 t326] 24 (0, 0))) ∧ Aside0 (wc.heap[gb328]? = some (.cells #[.int .i64 0, .int .i64 0, .int .i64 0, .int .i64 0, .string x329004_32, .string a1_5] 26 (0, 0))) ∧ Aside0 (Below w.heap.size w wc))
     case first =>
      have H := HC33.out; clear HC33
      by_cases c54 : (a0_4.size : Int) < 3
      ·rw [if_pos c54] at H
       have c54b0 : decide ((a0_4.size : Int) < 3) = true := decide_eq_true c54
       have c54b1 : decide (a0_4.size < 3) = true := decide_eq_true (by omega)
       clear c54
       (first | rw [c54b0] | (simp only [i64_w, i32_w]; rw [c54b0]) | skip)
       by_cases c55 : a0_4.size + a1_4.size ≤ 9223372036854775807
       ·rw [if_pos c55] at H
        have c55b0 := eq_true c55
        have c55b1 : decide (a0_4.size + a1_4.size ≤ 9223372036854775807) = true := decide_eq_true c55
        try have c55b2 : (9223372036854775807 < a0_4.size + a1_4.size) = False := eq_false (Nat.not_lt.2 c55)
        replace H := Option.bind_eq_some_iff.mp H
        obtain ⟨t329, A560, H⟩ := H
        replace H : (galleyref05_Join.j1 kj2 a0_0 a0_1 a0_2 a0_3 a0_4 a0_5 a1_0 a1_1 a1_2 a1_3 a1_4 a1_5 t323 t324 t325 t326 0 0 0 0 t329 a1_5) = some (r1, r2, r3, r4, r5, r6, r7) := H
        have A56 := Aside0.mk A560; clear A560; have H' := Aside0.mk H; clear H; have hnb57 := NB318_319.out; have hnc57 := NB319_318.out; have hnb58 := NB318_320.out; have hnc58 := NB320_318.out; have hnb59 := NB318_327.out; have hnc59 := NB327_318.out; have hnb60 := NB318_328.out; have hnc60 := NB328_318.out; obtain ⟨hcz61_0, hcz61_1, hcz61_2, hcz61_3, hcz61_4, hcz61_5⟩ := c6 BK318.out; obtain ⟨hfz61_0, hfz61_1, hfz61_2, hfz61_3, hfz61_4, hfz61_5⟩ := f6 BK318.out; have hnb62 := NB319_320.out; have hnc62 := NB320_319.out; have hnb63 := NB319_327.out; have hnc63 := NB327_319.out; have hnb64 := NB319_328.out; have hnc64 := NB328_319.out; obtain ⟨hcz65_0, hcz65_1, hcz65_2, hcz65_3, hcz65_4, hcz65_5⟩ := c6 BK319.out; obtain ⟨hfz65_0, hfz65_1, hfz65_2, hfz65_3, hfz65_4, hfz65_5⟩ := f6 BK319.out
        go_wp2_with (first | ((with_reducible refine gate_callee (f := 27) rfl ?_); refine goesL_ (some 43) rfl rfl Tryd.func27 (by kernel_rfl) rfl #[.string (a0_4 ++ a1_4)] rfl (by (try simp only [List.map_toArray, List.map_cons, List.map_nil]); first | done | rfl | (simp only [List.length_drop, List.length_take]; rfl)) ?_; (with_reducible refine (galleyref05_head.calls (a0_4 ++ a1_4) t329 _ A56.out).mono ?_); rintro e w66 ⟨rfl, hb⟩; refine ⟨_, rfl, ?_⟩; replace BK318 := Aside0.mk (blk_below (g := gb318) (o := .cells #[.int .i64 a0_0, .int .i64 a0_1, .int .i64 a0_2, .int .i64 a0_3, .string a0_4, .string a0_5] 26 (0, 0)) (by refine pl ?_; refine blk_far ?_ NB318_328.out _; refine pl ?_; refine blk_far ?_ NB318_328.out _; refine pl ?_; refine blk_far ?_ NB318_328.out _; refine pl ?_; refine blk_far ?_ NB318_328.out _; refine pl ?_; refine blk_far ?_ NB318_328.out _; refine pl ?_; refine blk_far ?_ NB318_328.out _; refine pl ?_; exact BK318.out) hb); replace BK319 := Aside0.mk (blk_below (g := gb319) (o := .cells #[.int .i64 a1_0, .int .i64 a1_1, .int .i64 a1_2, .int .i64 a1_3, .string a1_4, .string a1_5] 26 (0, 0)) (by refine pl ?_; refine blk_far ?_ NB319_328.out _; refine pl ?_; refine blk_far ?_ NB319_328.out _; refine pl ?_; refine blk_far ?_ NB319_328.out _; refine pl ?_; refine blk_far ?_ NB319_328.out _; refine pl ?_; refine blk_far ?_ NB319_328.out _; refine pl ?_; refine blk_far ?_ NB319_328.out _; refine pl ?_; exact BK319.out) hb); replace BK320 := Aside0.mk (blk_below (g := gb320) (o := .cells #[.int .i64 0, .int .i64 0, .int .i64 0, .int .i64 0, .string (⟨#[]⟩ : ByteArray), .string (⟨#[]⟩ : ByteArray)] 26 (0, 0)) (by refine pl ?_; refine blk_far ?_ NB320_328.out _; refine pl ?_; refine blk_far ?_ NB320_328.out _; refine pl ?_; refine blk_far ?_ NB320_328.out _; refine pl ?_; refine blk_far ?_ NB320_328.out _; refine pl ?_; refine blk_far ?_ NB320_328.out _; refine pl ?_; refine blk_far ?_ NB320_328.out _; refine pl ?_; exact BK320.out) hb); replace BK327 := Aside0.mk (blk_below (g := gb327) (o := .cells #[.int .i64 t323, .int .i64 t324, .int .i64 t325, .int .i64 t326] 24 (0, 0)) (by refine pl ?_; refine blk_far ?_ NB327_328.out _; refine pl ?_; refine blk_far ?_ NB327_328.out _; refine pl ?_; refine blk_far ?_ NB327_328.out _; refine pl ?_; refine blk_far ?_ NB327_328.out _; refine pl ?_; refine blk_far ?_ NB327_328.out _; refine pl ?_; refine blk_far ?_ NB327_328.out _; refine pl ?_; exact BK327.out) hb); replace BK328 := Aside0.mk (blk_below (g := gb328) (o := .cells #[.int .i64 0, .int .i64 0, .int .i64 0, .int .i64 0, .string a0_4, .string a1_5] 26 (0, 0)) (by refine pl ?_; refine blk_put (cs := #[.int .i64 0, .int .i64 0, .int .i64 0, .int .i64 0, .string a0_4, .string (⟨#[]⟩ : ByteArray)]) ?_ 5 _ rfl; refine pl ?_; refine blk_put (cs := #[.int .i64 0, .int .i64 0, .int .i64 0, .int .i64 0, .string (⟨#[]⟩ : ByteArray), .string (⟨#[]⟩ : ByteArray)]) ?_ 4 _ rfl; refine pl ?_; refine blk_put (cs := #[.int .i64 0, .int .i64 0, .int .i64 0, .int .i64 0, .string (⟨#[]⟩ : ByteArray), .string (⟨#[]⟩ : ByteArray)]) ?_ 3 _ rfl; refine pl ?_; refine blk_put (cs := #[.int .i64 0, .int .i64 0, .int .i64 0, .int .i64 0, .string (⟨#[]⟩ : ByteArray), .string (⟨#[]⟩ : ByteArray)]) ?_ 2 _ rfl; refine pl ?_; refine blk_put (cs := #[.int .i64 0, .int .i64 0, .int .i64 0, .int .i64 0, .string (⟨#[]⟩ : ByteArray), .string (⟨#[]⟩ : ByteArray)]) ?_ 1 _ rfl; refine pl ?_; refine blk_put (cs := #[.int .i64 0, .int .i64 0, .int .i64 0, .int .i64 0, .string (⟨#[]⟩ : ByteArray), .string (⟨#[]⟩ : ByteArray)]) ?_ 0 _ rfl; refine pl ?_; exact BK328.out) hb); replace HB := Aside0.mk (below_step (by repeat (first | (with_reducible first | exact HB.out | apply below_alloc | apply pw_below_drewN | apply below_drew1 | refine below_set ?_ GE318.out | refine below_set ?_ GE319.out | refine below_set ?_ GE320.out | refine below_set ?_ GE327.out | refine below_set ?_ GE328.out) | exact HB.out)) hb); (try clear hb); (try clear hb2); (try clear hk); (try clear hi); have hnb67 := NB328_320.out; have hnc67 := NB320_328.out; have hnb68 := NB328_327.out; have hnc68 := NB327_328.out; obtain ⟨hcz69_0, hcz69_1, hcz69_2, hcz69_3, hcz69_4, hcz69_5⟩ := c6 BK328.out; obtain ⟨hfz69_0, hfz69_1, hfz69_2, hfz69_3, hfz69_4, hfz69_5⟩ := f6 BK328.out))
        go_meet
        case rel => exact ⟨_, (t329), H', ⟨by have := HJ2.out; first | omega | exact Nat.le_refl _⟩, ⟨by refine pl ?_; refine blk_far ?_ NB318_328.out _; refine pl ?_; exact BK318.out⟩, ⟨by refine pl ?_; refine blk_far ?_ NB319_328.out _; refine pl ?_; exact BK319.out⟩, ⟨by refine pl ?_; refine blk_far ?_ NB320_328.out _; refine pl ?_; exact BK320.out⟩, ⟨by refine pl ?_; refine blk_far ?_ NB327_328.out _; refine pl ?_; exact BK327.out⟩, ⟨by refine pl ?_; refine blk_put (cs := #[.int .i64 0, .int .i64 0, .int .i64 0, .int .i64 0, .string a0_4, .string a1_5]) ?_ 4 _ rfl; refine pl ?_; exact BK328.out⟩, ⟨by repeat (first | (with_reducible first | exact HB.out | apply below_alloc | apply pw_below_drewN | apply below_drew1 | refine below_set ?_ GE318.out | refine below_set ?_ GE319.out | refine below_set ?_ GE320.out | refine below_set ?_ GE327.out | refine below_set ?_ GE328.out) | exact HB.out)⟩⟩
       ·rw [if_neg c55] at H
        exact absurd H (by simp)
      ·rw [if_neg c54] at H
       have c54b0 : decide ((a0_4.size : Int) < 3) = false := decide_eq_false c54
       have c54b1 : decide (a0_4.size < 3) = false := decide_eq_false (by omega)
       clear c54
       (first | rw [c54b0] | (simp only [i64_w, i32_w]; rw [c54b0]) | skip)
       have H' := Aside0.mk H; clear H
       go_wp2
       go_meet
       case rel => exact ⟨_, (a0_4), H', ⟨by have := HJ2.out; first | omega | exact Nat.le_refl _⟩, ⟨by refine pl ?_; refine blk_far ?_ NB318_328.out _; refine pl ?_; refine blk_far ?_ NB318_328.out _; refine pl ?_; refine blk_far ?_ NB318_328.out _; refine pl ?_; refine blk_far ?_ NB318_328.out _; refine pl ?_; refine blk_far ?_ NB318_328.out _; refine pl ?_; refine blk_far ?_ NB318_328.out _; refine pl ?_; exact BK318.out⟩, ⟨by refine pl ?_; refine blk_far ?_ NB319_328.out _; refine pl ?_; refine blk_far ?_ NB319_328.out _; refine pl ?_; refine blk_far ?_ NB319_328.out _; refine pl ?_; refine blk_far ?_ NB319_328.out _; refine pl ?_; refine blk_far ?_ NB319_328.out _; refine pl ?_; refine blk_far ?_ NB319_328.out _; refine pl ?_; exact BK319.out⟩, ⟨by refine pl ?_; refine blk_far ?_ NB320_328.out _; refine pl ?_; refine blk_far ?_ NB320_328.out _; refine pl ?_; refine blk_far ?_ NB320_328.out _; refine pl ?_; refine blk_far ?_ NB320_328.out _; refine pl ?_; refine blk_far ?_ NB320_328.out _; refine pl ?_; refine blk_far ?_ NB320_328.out _; refine pl ?_; exact BK320.out⟩, ⟨by refine pl ?_; refine blk_far ?_ NB327_328.out _; refine pl ?_; refine blk_far ?_ NB327_328.out _; refine pl ?_; refine blk_far ?_ NB327_328.out _; refine pl ?_; refine blk_far ?_ NB327_328.out _; refine pl ?_; refine blk_far ?_ NB327_328.out _; refine pl ?_; refine blk_far ?_ NB327_328.out _; refine pl ?_; exact BK327.out⟩, ⟨by refine pl ?_; refine blk_put (cs := #[.int .i64 0, .int .i64 0, .int .i64 0, .int .i64 0, .string a0_4, .string (⟨#[]⟩ : ByteArray)]) ?_ 5 _ rfl; refine pl ?_; refine blk_put (cs := #[.int .i64 0, .int .i64 0, .int .i64 0, .int .i64 0, .string (⟨#[]⟩ : ByteArray), .string (⟨#[]⟩ : ByteArray)]) ?_ 4 _ rfl; refine pl ?_; refine blk_put (cs := #[.int .i64 0, .int .i64 0, .int .i64 0, .int .i64 0, .string (⟨#[]⟩ : ByteArray), .string (⟨#[]⟩ : ByteArray)]) ?_ 3 _ rfl; refine pl ?_; refine blk_put (cs := #[.int .i64 0, .int .i64 0, .int .i64 0, .int .i64 0, .string (⟨#[]⟩ : ByteArray), .string (⟨#[]⟩ : ByteArray)]) ?_ 2 _ rfl; refine pl ?_; refine blk_put (cs := #[.int .i64 0, .int .i64 0, .int .i64 0, .int .i64 0, .string (⟨#[]⟩ : ByteArray), .string (⟨#[]⟩ : ByteArray)]) ?_ 1 _ rfl; refine pl ?_; refine blk_put (cs := #[.int .i64 0, .int .i64 0, .int .i64 0, .int .i64 0, .string (⟨#[]⟩ : ByteArray), .string (⟨#[]⟩ : ByteArray)]) ?_ 0 _ rfl; refine pl ?_; exact BK328.out⟩, ⟨by repeat (first | (with_reducible first | exact HB.out | apply below_alloc | apply pw_below_drewN | apply below_drew1 | refine below_set ?_ GE318.out | refine below_set ?_ GE319.out | refine below_set ?_ GE320.out | refine below_set ?_ GE327.out | refine below_set ?_ GE328.out) | exact HB.out)⟩⟩
     case rest =>
      clear HC33; (try clear c1); (try clear c2); (try clear p2); (try clear c3); (try clear c4); (try clear c5); (try clear c6); (try clear p6); (try clear c8); (try clear c10); (try clear c11); (try clear c14); (try clear c16); (try clear c17); (try clear c18); (try clear c21); (try clear c22); (try clear c23); (try clear c25); (try clear c25b0); (try clear c26); (try clear c27); (try clear c29); (try clear c33); (try clear c34); (try clear c35); (try clear c37); (try clear c41); (try clear c42); (try clear c43); (try clear c48); (try clear c49); (try clear c50); (try clear c51); (try clear c54); (try clear c54b0); (try clear c54b1); (try clear c55); (try clear c55b0); (try clear c55b1); (try clear c55b2); (try clear c57); (try clear c58); (try clear c59); (try clear c60); (try clear c62); (try clear c63); (try clear c64); (try clear p64); (try clear c67); (try clear c68); (try clear hcz12_0); (try clear hcz12_1); (try clear hcz12_2); (try clear hcz12_3); (try clear hcz12_4); (try clear hcz12_5); (try clear hcz15_0); (try clear hcz15_1); (try clear hcz15_2); (try clear hcz15_3); (try clear hcz15_4); (try clear hcz15_5); (try clear hcz19_0); (try clear hcz19_1); (try clear hcz19_2); (try clear hcz19_3); (try clear hcz19_4); (try clear hcz19_5); (try clear hcz24_0); (try clear hcz24_1); (try clear hcz24_2); (try clear hcz24_3); (try clear hcz24_4); (try clear hcz24_5); (try clear hcz28_0); (try clear hcz28_1); (try clear hcz28_2); (try clear hcz28_3); (try clear hcz28_4); (try clear hcz28_5); (try clear hcz30_0); (try clear hcz30_1); (try clear hcz30_2); (try clear hcz30_3); (try clear hcz30_4); (try clear hcz30_5); (try clear hcz31_0); (try clear hcz31_1); (try clear hcz31_2); (try clear hcz31_3); (try clear hcz31_4); (try clear hcz31_5); (try clear hcz36_0); (try clear hcz36_1); (try clear hcz36_2); (try clear hcz36_3); (try clear hcz36_4); (try clear hcz36_5); (try clear hcz38_0); (try clear hcz38_1); (try clear hcz38_2); (try clear hcz38_3); (try clear hcz38_4); (try clear hcz38_5); (try clear hcz44_0); (try clear hcz44_1); (try clear hcz44_2); (try clear hcz44_3); (try clear hcz45_0); (try clear hcz45_1); (try clear hcz45_2); (try clear hcz45_3); (try clear hcz45_4); (try clear hcz45_5); (try clear hcz46_0); (try clear hcz46_1); (try clear hcz46_2); (try clear hcz46_3); (try clear hcz46_4); (try clear hcz46_5); (try clear hcz52_0); (try clear hcz52_1); (try clear hcz52_2); (try clear hcz52_3); (try clear hcz52_4); (try clear hcz52_5); (try clear hcz53_0); (try clear hcz53_1); (try clear hcz53_2); (try clear hcz53_3); (try clear hcz53_4); (try clear hcz53_5); (try clear hcz61_0); (try clear hcz61_1); (try clear hcz61_2); (try clear hcz61_3); (try clear hcz61_4); (try clear hcz61_5); (try clear hcz65_0); (try clear hcz65_1); (try clear hcz65_2); (try clear hcz65_3); (try clear hcz65_4); (try clear hcz65_5); (try clear hcz69_0); (try clear hcz69_1); (try clear hcz69_2); (try clear hcz69_3); (try clear hcz69_4); (try clear hcz69_5); (try clear hfz12_0); (try clear hfz12_1); (try clear hfz12_2); (try clear hfz12_3); (try clear hfz12_4); (try clear hfz12_5); (try clear hfz15_0); (try clear hfz15_1); (try clear hfz15_2); (try clear hfz15_3); (try clear hfz15_4); (try clear hfz15_5); (try clear hfz19_0); (try clear hfz19_1); (try clear hfz19_2); (try clear hfz19_3); (try clear hfz19_4); (try clear hfz19_5); (try clear hfz24_0); (try clear hfz24_1); (try clear hfz24_2); (try clear hfz24_3); (try clear hfz24_4); (try clear hfz24_5); (try clear hfz28_0); (try clear hfz28_1); (try clear hfz28_2); (try clear hfz28_3); (try clear hfz28_4); (try clear hfz28_5); (try clear hfz30_0); (try clear hfz30_1); (try clear hfz30_2); (try clear hfz30_3); (try clear hfz30_4); (try clear hfz30_5); (try clear hfz31_0); (try clear hfz31_1); (try clear hfz31_2); (try clear hfz31_3); (try clear hfz31_4); (try clear hfz31_5); (try clear hfz36_0); (try clear hfz36_1); (try clear hfz36_2); (try clear hfz36_3); (try clear hfz36_4); (try clear hfz36_5); (try clear hfz38_0); (try clear hfz38_1); (try clear hfz38_2); (try clear hfz38_3); (try clear hfz38_4); (try clear hfz38_5); (try clear hfz44_0); (try clear hfz44_1); (try clear hfz44_2); (try clear hfz44_3); (try clear hfz45_0); (try clear hfz45_1); (try clear hfz45_2); (try clear hfz45_3); (try clear hfz45_4); (try clear hfz45_5); (try clear hfz46_0); (try clear hfz46_1); (try clear hfz46_2); (try clear hfz46_3); (try clear hfz46_4); (try clear hfz46_5); (try clear hfz52_0); (try clear hfz52_1); (try clear hfz52_2); (try clear hfz52_3); (try clear hfz52_4); (try clear hfz52_5); (try clear hfz53_0); (try clear hfz53_1); (try clear hfz53_2); (try clear hfz53_3); (try clear hfz53_4); (try clear hfz53_5); (try clear hfz61_0); (try clear hfz61_1); (try clear hfz61_2); (try clear hfz61_3); (try clear hfz61_4); (try clear hfz61_5); (try clear hfz65_0); (try clear hfz65_1); (try clear hfz65_2); (try clear hfz65_3); (try clear hfz65_4); (try clear hfz65_5); (try clear hfz69_0); (try clear hfz69_1); (try clear hfz69_2); (try clear hfz69_3); (try clear hfz69_4); (try clear hfz69_5); (try clear p2)
      obtain ⟨kq, x329004_32, HA, HJ32, BK318, BK319, BK320, BK327, BK328, HB⟩ := hcut
      cases kq with
      | zero => exact absurd HA.out (by simp [galleyref05_Join.j1])
      | succ kj32 =>
       have H := HA.out; clear HA
       simp only [galleyref05_Join.j1] at H
       by_cases c70 : (a1_5.size : Int) < 3
       ·rw [if_pos c70] at H
        have c70b0 : decide ((a1_5.size : Int) < 3) = true := decide_eq_true c70
        have c70b1 : decide (a1_5.size < 3) = true := decide_eq_true (by omega)
        clear c70
        by_cases c71 : a0_5.size + a1_5.size ≤ 9223372036854775807
        ·rw [if_pos c71] at H
         have c71b0 := eq_true c71
         have c71b1 : decide (a0_5.size + a1_5.size ≤ 9223372036854775807) = true := decide_eq_true c71
         try have c71b2 : (9223372036854775807 < a0_5.size + a1_5.size) = False := eq_false (Nat.not_lt.2 c71)
         replace H := Option.bind_eq_some_iff.mp H
         obtain ⟨t330, A720, H⟩ := H
         replace H : ((galleyref05_Valid.f kj32 (wrap64 (a0_0 + a1_0)) (wrap64 ((wrap64 (a0_1 + a1_1)) - t324)) (wrap64 ((wrap64 (a0_2 + a1_2)) - t325)) (wrap64 ((wrap64 (a0_3 + a1_3)) - t326)) x329004_32 t330).bind fun t331 => (if t331 = true then (some (wrap64 (a0_0 + a1_0), wrap64 ((wrap64 (a0_1 + a1_1)) - t324), wrap64 ((wrap64 (a0_2 + a1_2)) - t325), wrap64 ((wrap64 (a0_3 + a1_3)) - t326), x329004_32, t330, 0)) else (some (0, 0, 0, 0, (⟨#[]⟩ : ByteArray), (⟨#[]⟩ : ByteArray), 50)))) = some (r1, r2, r3, r4, r5, r6, r7) := H
         have A72 := Aside0.mk A720; clear A720
         replace H := Option.bind_eq_some_iff.mp H
         obtain ⟨t331, A730, H⟩ := H
         replace H : (if t331 = true then (some (wrap64 (a0_0 + a1_0), wrap64 ((wrap64 (a0_1 + a1_1)) - t324), wrap64 ((wrap64 (a0_2 + a1_2)) - t325), wrap64 ((wrap64 (a0_3 + a1_3)) - t326), x329004_32, t330, 0)) else (some (0, 0, 0, 0, (⟨#[]⟩ : ByteArray), (⟨#[]⟩ : ByteArray), 50))) = some (r1, r2, r3, r4, r5, r6, r7) := H
         have A73 := Aside0.mk A730; clear A730
         by_cases c74 : t331 = true
         ·subst c74
          have H1 : (some (wrap64 (a0_0 + a1_0), wrap64 ((wrap64 (a0_1 + a1_1)) - t324), wrap64 ((wrap64 (a0_2 + a1_2)) - t325), wrap64 ((wrap64 (a0_3 + a1_3)) - t326), x329004_32, t330, 0)) = some (r1, r2, r3, r4, r5, r6, r7) := by rw [if_pos rfl] at H; exact H
          clear H; have H := H1; clear H1
          simp only [Option.some.injEq, Prod.mk.injEq] at H
          obtain ⟨rfl, rfl, rfl, rfl, rfl, rfl, rfl⟩ := H
          have hnb75 := NB319_318.out; have hnc75 := NB318_319.out; have hnb76 := NB319_320.out; have hnc76 := NB320_319.out; have hnb77 := NB319_327.out; have hnc77 := NB327_319.out; have hnb78 := NB319_328.out; have hnc78 := NB328_319.out; obtain ⟨hcz79_0, hcz79_1, hcz79_2, hcz79_3, hcz79_4, hcz79_5⟩ := c6 BK319.out; obtain ⟨hfz79_0, hfz79_1, hfz79_2, hfz79_3, hfz79_4, hfz79_5⟩ := f6 BK319.out; have hnb80 := NB318_320.out; have hnc80 := NB320_318.out; have hnb81 := NB318_327.out; have hnc81 := NB327_318.out; have hnb82 := NB318_328.out; have hnc82 := NB328_318.out; obtain ⟨hcz83_0, hcz83_1, hcz83_2, hcz83_3, hcz83_4, hcz83_5⟩ := c6 BK318.out; obtain ⟨hfz83_0, hfz83_1, hfz83_2, hfz83_3, hfz83_4, hfz83_5⟩ := f6 BK318.out
          go_wp2_with (first | ((with_reducible refine gate_callee (f := 28) rfl ?_); refine goesL_ (some 54) rfl rfl Tryd.func28 (by kernel_rfl) rfl #[.string (a0_5 ++ a1_5)] rfl (by (try simp only [List.map_toArray, List.map_cons, List.map_nil]); first | done | rfl | (simp only [List.length_drop, List.length_take]; rfl)) ?_; (with_reducible refine (galleyref05_tail.calls (a0_5 ++ a1_5) t330 _ A72.out).mono ?_); rintro e w84 ⟨rfl, hb⟩; refine ⟨_, rfl, ?_⟩; replace BK318 := Aside0.mk (blk_below (pl BK318.out) hb); replace BK319 := Aside0.mk (blk_below (pl BK319.out) hb); replace BK320 := Aside0.mk (blk_below (pl BK320.out) hb); replace BK327 := Aside0.mk (blk_below (pl BK327.out) hb); replace BK328 := Aside0.mk (blk_below (pl BK328.out) hb); replace HB := Aside0.mk (below_step (by repeat (first | (with_reducible first | exact HB.out | apply below_alloc | apply pw_below_drewN | apply below_drew1 | refine below_set ?_ GE318.out | refine below_set ?_ GE319.out | refine below_set ?_ GE320.out | refine below_set ?_ GE327.out | refine below_set ?_ GE328.out) | exact HB.out)) hb); (try clear hb); (try clear hb2); (try clear hk); (try clear hi); have hnb85 := NB328_320.out; have hnc85 := NB320_328.out; have hnb86 := NB328_327.out; have hnc86 := NB327_328.out; obtain ⟨hcz87_0, hcz87_1, hcz87_2, hcz87_3, hcz87_4, hcz87_5⟩ := c6 BK328.out; obtain ⟨hfz87_0, hfz87_1, hfz87_2, hfz87_3, hfz87_4, hfz87_5⟩ := f6 BK328.out; obtain ⟨hcz88_0, hcz88_1, hcz88_2, hcz88_3, hcz88_4, hcz88_5⟩ := c6 BK318.out; obtain ⟨hfz88_0, hfz88_1, hfz88_2, hfz88_3, hfz88_4, hfz88_5⟩ := f6 BK318.out; obtain ⟨hcz89_0, hcz89_1, hcz89_2, hcz89_3, hcz89_4, hcz89_5⟩ := c6 BK319.out; obtain ⟨hfz89_0, hfz89_1, hfz89_2, hfz89_3, hfz89_4, hfz89_5⟩ := f6 BK319.out; have hnb90 := NB327_320.out; have hnc90 := NB320_327.out; obtain ⟨hcz91_0, hcz91_1, hcz91_2, hcz91_3⟩ := c4 BK327.out; obtain ⟨hfz91_0, hfz91_1, hfz91_2, hfz91_3⟩ := f4 BK327.out) | ((with_reducible refine gate_callee (f := 16) rfl ?_); refine goesL_ (some 102) rfl rfl Tryd.func16 (by kernel_rfl) rfl #[.agg #[.int .i64 (wrap64 (a0_0 + a1_0)), .int .i64 (wrap64 ((wrap64 (a0_1 + a1_1)) - t324)), .int .i64 (wrap64 ((wrap64 (a0_2 + a1_2)) - t325)), .int .i64 (wrap64 ((wrap64 (a0_3 + a1_3)) - t326)), .string x329004_32, .string t330]] rfl (by (try simp only [List.map_toArray, List.map_cons, List.map_nil]); first | done | rfl | (simp only [List.length_drop, List.length_take]; rfl)) ?_; (with_reducible refine (galleyref05_Valid.calls kj32 (wrap64 (a0_0 + a1_0)) (wrap64 ((wrap64 (a0_1 + a1_1)) - t324)) (wrap64 ((wrap64 (a0_2 + a1_2)) - t325)) (wrap64 ((wrap64 (a0_3 + a1_3)) - t326)) x329004_32 t330 true _ A73.out).mono ?_); rintro e w92 ⟨rfl, hb⟩; refine ⟨_, rfl, ?_⟩; replace BK318 := Aside0.mk (blk_below (g := gb318) (o := .cells #[.int .i64 a0_0, .int .i64 a0_1, .int .i64 a0_2, .int .i64 a0_3, .string a0_4, .string a0_5] 26 (0, 0)) (by refine pl ?_; refine blk_far ?_ NB318_328.out _; refine pl ?_; refine blk_far ?_ NB318_328.out _; refine pl ?_; refine blk_far ?_ NB318_328.out _; refine pl ?_; refine blk_far ?_ NB318_328.out _; refine pl ?_; refine blk_far ?_ NB318_328.out _; refine pl ?_; exact BK318.out) hb); replace BK319 := Aside0.mk (blk_below (g := gb319) (o := .cells #[.int .i64 a1_0, .int .i64 a1_1, .int .i64 a1_2, .int .i64 a1_3, .string a1_4, .string a1_5] 26 (0, 0)) (by refine pl ?_; refine blk_far ?_ NB319_328.out _; refine pl ?_; refine blk_far ?_ NB319_328.out _; refine pl ?_; refine blk_far ?_ NB319_328.out _; refine pl ?_; refine blk_far ?_ NB319_328.out _; refine pl ?_; refine blk_far ?_ NB319_328.out _; refine pl ?_; exact BK319.out) hb); replace BK320 := Aside0.mk (blk_below (g := gb320) (o := .cells #[.int .i64 0, .int .i64 0, .int .i64 0, .int .i64 0, .string (⟨#[]⟩ : ByteArray), .string (⟨#[]⟩ : ByteArray)] 26 (0, 0)) (by refine pl ?_; refine blk_far ?_ NB320_328.out _; refine pl ?_; refine blk_far ?_ NB320_328.out _; refine pl ?_; refine blk_far ?_ NB320_328.out _; refine pl ?_; refine blk_far ?_ NB320_328.out _; refine pl ?_; refine blk_far ?_ NB320_328.out _; refine pl ?_; exact BK320.out) hb); replace BK327 := Aside0.mk (blk_below (g := gb327) (o := .cells #[.int .i64 t323, .int .i64 t324, .int .i64 t325, .int .i64 t326] 24 (0, 0)) (by refine pl ?_; refine blk_far ?_ NB327_328.out _; refine pl ?_; refine blk_far ?_ NB327_328.out _; refine pl ?_; refine blk_far ?_ NB327_328.out _; refine pl ?_; refine blk_far ?_ NB327_328.out _; refine pl ?_; refine blk_far ?_ NB327_328.out _; refine pl ?_; exact BK327.out) hb); replace BK328 := Aside0.mk (blk_below (g := gb328) (o := .cells #[.int .i64 (wrap64 (a0_0 + a1_0)), .int .i64 (wrap64 ((wrap64 (a0_1 + a1_1)) - t324)), .int .i64 (wrap64 ((wrap64 (a0_2 + a1_2)) - t325)), .int .i64 (wrap64 ((wrap64 (a0_3 + a1_3)) - t326)), .string x329004_32, .string t330] 26 (0, 0)) (by refine pl ?_; refine blk_put (cs := #[.int .i64 (wrap64 (a0_0 + a1_0)), .int .i64 (wrap64 ((wrap64 (a0_1 + a1_1)) - t324)), .int .i64 (wrap64 ((wrap64 (a0_2 + a1_2)) - t325)), .int .i64 0, .string x329004_32, .string t330]) ?_ 3 _ rfl; refine pl ?_; refine blk_put (cs := #[.int .i64 (wrap64 (a0_0 + a1_0)), .int .i64 (wrap64 ((wrap64 (a0_1 + a1_1)) - t324)), .int .i64 0, .int .i64 0, .string x329004_32, .string t330]) ?_ 2 _ rfl; refine pl ?_; refine blk_put (cs := #[.int .i64 (wrap64 (a0_0 + a1_0)), .int .i64 0, .int .i64 0, .int .i64 0, .string x329004_32, .string t330]) ?_ 1 _ rfl; refine pl ?_; refine blk_put (cs := #[.int .i64 0, .int .i64 0, .int .i64 0, .int .i64 0, .string x329004_32, .string t330]) ?_ 0 _ rfl; refine pl ?_; refine blk_put (cs := #[.int .i64 0, .int .i64 0, .int .i64 0, .int .i64 0, .string x329004_32, .string a1_5]) ?_ 5 _ rfl; refine pl ?_; exact BK328.out) hb); replace HB := Aside0.mk (below_step (by repeat (first | (with_reducible first | exact HB.out | apply below_alloc | apply pw_below_drewN | apply below_drew1 | refine below_set ?_ GE318.out | refine below_set ?_ GE319.out | refine below_set ?_ GE320.out | refine below_set ?_ GE327.out | refine below_set ?_ GE328.out) | exact HB.out)) hb); (try clear hb); (try clear hb2); (try clear hk); (try clear hi); obtain ⟨hcz93_0, hcz93_1, hcz93_2, hcz93_3, hcz93_4, hcz93_5⟩ := c6 BK328.out; obtain ⟨hfz93_0, hfz93_1, hfz93_2, hfz93_3, hfz93_4, hfz93_5⟩ := f6 BK328.out; obtain ⟨hcz94_0, hcz94_1, hcz94_2, hcz94_3, hcz94_4, hcz94_5⟩ := c6 BK320.out; obtain ⟨hfz94_0, hfz94_1, hfz94_2, hfz94_3, hfz94_4, hfz94_5⟩ := f6 BK320.out))
          refine bodyPost_ret (results_ct rfl _ _ gb320 26 #[.int .i64 (wrap64 (a0_0 + a1_0)), .int .i64 (wrap64 ((wrap64 (a0_1 + a1_1)) - t324)), .int .i64 (wrap64 ((wrap64 (a0_2 + a1_2)) - t325)), .int .i64 (wrap64 ((wrap64 (a0_3 + a1_3)) - t326)), .string x329004_32, .string t330] (0, 0) _ rfl (by refine pl ?_; refine blk_put (cs := #[.int .i64 (wrap64 (a0_0 + a1_0)), .int .i64 (wrap64 ((wrap64 (a0_1 + a1_1)) - t324)), .int .i64 (wrap64 ((wrap64 (a0_2 + a1_2)) - t325)), .int .i64 (wrap64 ((wrap64 (a0_3 + a1_3)) - t326)), .string x329004_32, .string (⟨#[]⟩ : ByteArray)]) ?_ 5 _ rfl; refine pl ?_; refine blk_put (cs := #[.int .i64 (wrap64 (a0_0 + a1_0)), .int .i64 (wrap64 ((wrap64 (a0_1 + a1_1)) - t324)), .int .i64 (wrap64 ((wrap64 (a0_2 + a1_2)) - t325)), .int .i64 (wrap64 ((wrap64 (a0_3 + a1_3)) - t326)), .string (⟨#[]⟩ : ByteArray), .string (⟨#[]⟩ : ByteArray)]) ?_ 4 _ rfl; refine pl ?_; refine blk_put (cs := #[.int .i64 (wrap64 (a0_0 + a1_0)), .int .i64 (wrap64 ((wrap64 (a0_1 + a1_1)) - t324)), .int .i64 (wrap64 ((wrap64 (a0_2 + a1_2)) - t325)), .int .i64 0, .string (⟨#[]⟩ : ByteArray), .string (⟨#[]⟩ : ByteArray)]) ?_ 3 _ rfl; refine pl ?_; refine blk_put (cs := #[.int .i64 (wrap64 (a0_0 + a1_0)), .int .i64 (wrap64 ((wrap64 (a0_1 + a1_1)) - t324)), .int .i64 0, .int .i64 0, .string (⟨#[]⟩ : ByteArray), .string (⟨#[]⟩ : ByteArray)]) ?_ 2 _ rfl; refine pl ?_; refine blk_put (cs := #[.int .i64 (wrap64 (a0_0 + a1_0)), .int .i64 0, .int .i64 0, .int .i64 0, .string (⟨#[]⟩ : ByteArray), .string (⟨#[]⟩ : ByteArray)]) ?_ 1 _ rfl; refine pl ?_; refine blk_put (cs := #[.int .i64 0, .int .i64 0, .int .i64 0, .int .i64 0, .string (⟨#[]⟩ : ByteArray), .string (⟨#[]⟩ : ByteArray)]) ?_ 0 _ rfl; refine pl ?_; exact BK320.out) Tryd.underlying26 rfl (by kernel_rfl)) rfl ?_
          exact ⟨by first | rfl | (simp [errW_none, errW_some] <;> rfl) | (simp [*, errW_none, errW_some] <;> rfl), by repeat (first | (with_reducible first | exact HB.out | apply below_alloc | apply pw_below_drewN | apply below_drew1 | refine below_set ?_ GE318.out | refine below_set ?_ GE319.out | refine below_set ?_ GE320.out | refine below_set ?_ GE327.out | refine below_set ?_ GE328.out) | exact HB.out)⟩
         ·replace c74 := Bool.eq_false_iff.mpr c74
          subst c74
          have H1 : (some (0, 0, 0, 0, (⟨#[]⟩ : ByteArray), (⟨#[]⟩ : ByteArray), 50)) = some (r1, r2, r3, r4, r5, r6, r7) := by rw [if_neg (show ¬ (false = true) by decide)] at H; exact H
          clear H; have H := H1; clear H1
          simp only [Option.some.injEq, Prod.mk.injEq] at H
          obtain ⟨rfl, rfl, rfl, rfl, rfl, rfl, rfl⟩ := H
          have hnb95 := NB319_318.out; have hnc95 := NB318_319.out; have hnb96 := NB319_320.out; have hnc96 := NB320_319.out; have hnb97 := NB319_327.out; have hnc97 := NB327_319.out; have hnb98 := NB319_328.out; have hnc98 := NB328_319.out; obtain ⟨hcz99_0, hcz99_1, hcz99_2, hcz99_3, hcz99_4, hcz99_5⟩ := c6 BK319.out; obtain ⟨hfz99_0, hfz99_1, hfz99_2, hfz99_3, hfz99_4, hfz99_5⟩ := f6 BK319.out; have hnb100 := NB318_320.out; have hnc100 := NB320_318.out; have hnb101 := NB318_327.out; have hnc101 := NB327_318.out; have hnb102 := NB318_328.out; have hnc102 := NB328_318.out; obtain ⟨hcz103_0, hcz103_1, hcz103_2, hcz103_3, hcz103_4, hcz103_5⟩ := c6 BK318.out; obtain ⟨hfz103_0, hfz103_1, hfz103_2, hfz103_3, hfz103_4, hfz103_5⟩ := f6 BK318.out
          go_wp2_with (first | ((with_reducible refine gate_callee (f := 28) rfl ?_); refine goesL_ (some 54) rfl rfl Tryd.func28 (by kernel_rfl) rfl #[.string (a0_5 ++ a1_5)] rfl (by (try simp only [List.map_toArray, List.map_cons, List.map_nil]); first | done | rfl | (simp only [List.length_drop, List.length_take]; rfl)) ?_; (with_reducible refine (galleyref05_tail.calls (a0_5 ++ a1_5) t330 _ A72.out).mono ?_); rintro e w104 ⟨rfl, hb⟩; refine ⟨_, rfl, ?_⟩; replace BK318 := Aside0.mk (blk_below (pl BK318.out) hb); replace BK319 := Aside0.mk (blk_below (pl BK319.out) hb); replace BK320 := Aside0.mk (blk_below (pl BK320.out) hb); replace BK327 := Aside0.mk (blk_below (pl BK327.out) hb); replace BK328 := Aside0.mk (blk_below (pl BK328.out) hb); replace HB := Aside0.mk (below_step (by repeat (first | (with_reducible first | exact HB.out | apply below_alloc | apply pw_below_drewN | apply below_drew1 | refine below_set ?_ GE318.out | refine below_set ?_ GE319.out | refine below_set ?_ GE320.out | refine below_set ?_ GE327.out | refine below_set ?_ GE328.out) | exact HB.out)) hb); (try clear hb); (try clear hb2); (try clear hk); (try clear hi); have hnb105 := NB328_320.out; have hnc105 := NB320_328.out; have hnb106 := NB328_327.out; have hnc106 := NB327_328.out; obtain ⟨hcz107_0, hcz107_1, hcz107_2, hcz107_3, hcz107_4, hcz107_5⟩ := c6 BK328.out; obtain ⟨hfz107_0, hfz107_1, hfz107_2, hfz107_3, hfz107_4, hfz107_5⟩ := f6 BK328.out; obtain ⟨hcz108_0, hcz108_1, hcz108_2, hcz108_3, hcz108_4, hcz108_5⟩ := c6 BK318.out; obtain ⟨hfz108_0, hfz108_1, hfz108_2, hfz108_3, hfz108_4, hfz108_5⟩ := f6 BK318.out; obtain ⟨hcz109_0, hcz109_1, hcz109_2, hcz109_3, hcz109_4, hcz109_5⟩ := c6 BK319.out; obtain ⟨hfz109_0, hfz109_1, hfz109_2, hfz109_3, hfz109_4, hfz109_5⟩ := f6 BK319.out; have hnb110 := NB327_320.out; have hnc110 := NB320_327.out; obtain ⟨hcz111_0, hcz111_1, hcz111_2, hcz111_3⟩ := c4 BK327.out; obtain ⟨hfz111_0, hfz111_1, hfz111_2, hfz111_3⟩ := f4 BK327.out) | ((with_reducible refine gate_callee (f := 16) rfl ?_); refine goesL_ (some 102) rfl rfl Tryd.func16 (by kernel_rfl) rfl #[.agg #[.int .i64 (wrap64 (a0_0 + a1_0)), .int .i64 (wrap64 ((wrap64 (a0_1 + a1_1)) - t324)), .int .i64 (wrap64 ((wrap64 (a0_2 + a1_2)) - t325)), .int .i64 (wrap64 ((wrap64 (a0_3 + a1_3)) - t326)), .string x329004_32, .string t330]] rfl (by (try simp only [List.map_toArray, List.map_cons, List.map_nil]); first | done | rfl | (simp only [List.length_drop, List.length_take]; rfl)) ?_; (with_reducible refine (galleyref05_Valid.calls kj32 (wrap64 (a0_0 + a1_0)) (wrap64 ((wrap64 (a0_1 + a1_1)) - t324)) (wrap64 ((wrap64 (a0_2 + a1_2)) - t325)) (wrap64 ((wrap64 (a0_3 + a1_3)) - t326)) x329004_32 t330 false _ A73.out).mono ?_); rintro e w112 ⟨rfl, hb⟩; refine ⟨_, rfl, ?_⟩; replace BK318 := Aside0.mk (blk_below (g := gb318) (o := .cells #[.int .i64 a0_0, .int .i64 a0_1, .int .i64 a0_2, .int .i64 a0_3, .string a0_4, .string a0_5] 26 (0, 0)) (by refine pl ?_; refine blk_far ?_ NB318_328.out _; refine pl ?_; refine blk_far ?_ NB318_328.out _; refine pl ?_; refine blk_far ?_ NB318_328.out _; refine pl ?_; refine blk_far ?_ NB318_328.out _; refine pl ?_; refine blk_far ?_ NB318_328.out _; refine pl ?_; exact BK318.out) hb); replace BK319 := Aside0.mk (blk_below (g := gb319) (o := .cells #[.int .i64 a1_0, .int .i64 a1_1, .int .i64 a1_2, .int .i64 a1_3, .string a1_4, .string a1_5] 26 (0, 0)) (by refine pl ?_; refine blk_far ?_ NB319_328.out _; refine pl ?_; refine blk_far ?_ NB319_328.out _; refine pl ?_; refine blk_far ?_ NB319_328.out _; refine pl ?_; refine blk_far ?_ NB319_328.out _; refine pl ?_; refine blk_far ?_ NB319_328.out _; refine pl ?_; exact BK319.out) hb); replace BK320 := Aside0.mk (blk_below (g := gb320) (o := .cells #[.int .i64 0, .int .i64 0, .int .i64 0, .int .i64 0, .string (⟨#[]⟩ : ByteArray), .string (⟨#[]⟩ : ByteArray)] 26 (0, 0)) (by refine pl ?_; refine blk_far ?_ NB320_328.out _; refine pl ?_; refine blk_far ?_ NB320_328.out _; refine pl ?_; refine blk_far ?_ NB320_328.out _; refine pl ?_; refine blk_far ?_ NB320_328.out _; refine pl ?_; refine blk_far ?_ NB320_328.out _; refine pl ?_; exact BK320.out) hb); replace BK327 := Aside0.mk (blk_below (g := gb327) (o := .cells #[.int .i64 t323, .int .i64 t324, .int .i64 t325, .int .i64 t326] 24 (0, 0)) (by refine pl ?_; refine blk_far ?_ NB327_328.out _; refine pl ?_; refine blk_far ?_ NB327_328.out _; refine pl ?_; refine blk_far ?_ NB327_328.out _; refine pl ?_; refine blk_far ?_ NB327_328.out _; refine pl ?_; refine blk_far ?_ NB327_328.out _; refine pl ?_; exact BK327.out) hb); replace BK328 := Aside0.mk (blk_below (g := gb328) (o := .cells #[.int .i64 (wrap64 (a0_0 + a1_0)), .int .i64 (wrap64 ((wrap64 (a0_1 + a1_1)) - t324)), .int .i64 (wrap64 ((wrap64 (a0_2 + a1_2)) - t325)), .int .i64 (wrap64 ((wrap64 (a0_3 + a1_3)) - t326)), .string x329004_32, .string t330] 26 (0, 0)) (by refine pl ?_; refine blk_put (cs := #[.int .i64 (wrap64 (a0_0 + a1_0)), .int .i64 (wrap64 ((wrap64 (a0_1 + a1_1)) - t324)), .int .i64 (wrap64 ((wrap64 (a0_2 + a1_2)) - t325)), .int .i64 0, .string x329004_32, .string t330]) ?_ 3 _ rfl; refine pl ?_; refine blk_put (cs := #[.int .i64 (wrap64 (a0_0 + a1_0)), .int .i64 (wrap64 ((wrap64 (a0_1 + a1_1)) - t324)), .int .i64 0, .int .i64 0, .string x329004_32, .string t330]) ?_ 2 _ rfl; refine pl ?_; refine blk_put (cs := #[.int .i64 (wrap64 (a0_0 + a1_0)), .int .i64 0, .int .i64 0, .int .i64 0, .string x329004_32, .string t330]) ?_ 1 _ rfl; refine pl ?_; refine blk_put (cs := #[.int .i64 0, .int .i64 0, .int .i64 0, .int .i64 0, .string x329004_32, .string t330]) ?_ 0 _ rfl; refine pl ?_; refine blk_put (cs := #[.int .i64 0, .int .i64 0, .int .i64 0, .int .i64 0, .string x329004_32, .string a1_5]) ?_ 5 _ rfl; refine pl ?_; exact BK328.out) hb); replace HB := Aside0.mk (below_step (by repeat (first | (with_reducible first | exact HB.out | apply below_alloc | apply pw_below_drewN | apply below_drew1 | refine below_set ?_ GE318.out | refine below_set ?_ GE319.out | refine below_set ?_ GE320.out | refine below_set ?_ GE327.out | refine below_set ?_ GE328.out) | exact HB.out)) hb); (try clear hb); (try clear hb2); (try clear hk); (try clear hi); obtain ⟨hcz113_0, hcz113_1, hcz113_2, hcz113_3, hcz113_4, hcz113_5⟩ := c6 BK320.out; obtain ⟨hfz113_0, hfz113_1, hfz113_2, hfz113_3, hfz113_4, hfz113_5⟩ := f6 BK320.out))
          refine bodyPost_ret (results_ct rfl _ _ gb320 26 #[.int .i64 0, .int .i64 0, .int .i64 0, .int .i64 0, .string (⟨#[]⟩ : ByteArray), .string (⟨#[]⟩ : ByteArray)] (0, 0) _ rfl (by refine pl ?_; refine blk_put (cs := #[.int .i64 0, .int .i64 0, .int .i64 0, .int .i64 0, .string (⟨#[]⟩ : ByteArray), .string (⟨#[]⟩ : ByteArray)]) ?_ 5 _ rfl; refine pl ?_; refine blk_put (cs := #[.int .i64 0, .int .i64 0, .int .i64 0, .int .i64 0, .string (⟨#[]⟩ : ByteArray), .string (⟨#[]⟩ : ByteArray)]) ?_ 4 _ rfl; refine pl ?_; refine blk_put (cs := #[.int .i64 0, .int .i64 0, .int .i64 0, .int .i64 0, .string (⟨#[]⟩ : ByteArray), .string (⟨#[]⟩ : ByteArray)]) ?_ 3 _ rfl; refine pl ?_; refine blk_put (cs := #[.int .i64 0, .int .i64 0, .int .i64 0, .int .i64 0, .string (⟨#[]⟩ : ByteArray), .string (⟨#[]⟩ : ByteArray)]) ?_ 2 _ rfl; refine pl ?_; refine blk_put (cs := #[.int .i64 0, .int .i64 0, .int .i64 0, .int .i64 0, .string (⟨#[]⟩ : ByteArray), .string (⟨#[]⟩ : ByteArray)]) ?_ 1 _ rfl; refine pl ?_; refine blk_put (cs := #[.int .i64 0, .int .i64 0, .int .i64 0, .int .i64 0, .string (⟨#[]⟩ : ByteArray), .string (⟨#[]⟩ : ByteArray)]) ?_ 0 _ rfl; refine pl ?_; exact BK320.out) Tryd.underlying26 rfl (by kernel_rfl)) rfl ?_
          exact ⟨by first | rfl | (simp [errW_none, errW_some] <;> rfl) | (simp [*, errW_none, errW_some] <;> rfl), by repeat (first | (with_reducible first | exact HB.out | apply below_alloc | apply pw_below_drewN | apply below_drew1 | refine below_set ?_ GE318.out | refine below_set ?_ GE319.out | refine below_set ?_ GE320.out | refine below_set ?_ GE327.out | refine below_set ?_ GE328.out) | exact HB.out)⟩
        ·rw [if_neg c71] at H
         exact absurd H (by simp)
       ·rw [if_neg c70] at H
        have c70b0 : decide ((a1_5.size : Int) < 3) = false := decide_eq_false c70
        have c70b1 : decide (a1_5.size < 3) = false := decide_eq_false (by omega)
        clear c70
        replace H := Option.bind_eq_some_iff.mp H
        obtain ⟨t332, A1140, H⟩ := H
        replace H : (if t332 = true then (some (wrap64 (a0_0 + a1_0), wrap64 ((wrap64 (a0_1 + a1_1)) - t324), wrap64 ((wrap64 (a0_2 + a1_2)) - t325), wrap64 ((wrap64 (a0_3 + a1_3)) - t326), x329004_32, a1_5, 0)) else (some (0, 0, 0, 0, (⟨#[]⟩ : ByteArray), (⟨#[]⟩ : ByteArray), 50))) = some (r1, r2, r3, r4, r5, r6, r7) := H
        have A114 := Aside0.mk A1140; clear A1140
        by_cases c115 : t332 = true
        ·subst c115
         have H1 : (some (wrap64 (a0_0 + a1_0), wrap64 ((wrap64 (a0_1 + a1_1)) - t324), wrap64 ((wrap64 (a0_2 + a1_2)) - t325), wrap64 ((wrap64 (a0_3 + a1_3)) - t326), x329004_32, a1_5, 0)) = some (r1, r2, r3, r4, r5, r6, r7) := by rw [if_pos rfl] at H; exact H
         clear H; have H := H1; clear H1
         simp only [Option.some.injEq, Prod.mk.injEq] at H
         obtain ⟨rfl, rfl, rfl, rfl, rfl, rfl, rfl⟩ := H
         have hnb116 := NB319_318.out; have hnc116 := NB318_319.out; have hnb117 := NB319_320.out; have hnc117 := NB320_319.out; have hnb118 := NB319_327.out; have hnc118 := NB327_319.out; have hnb119 := NB319_328.out; have hnc119 := NB328_319.out; obtain ⟨hcz120_0, hcz120_1, hcz120_2, hcz120_3, hcz120_4, hcz120_5⟩ := c6 BK319.out; obtain ⟨hfz120_0, hfz120_1, hfz120_2, hfz120_3, hfz120_4, hfz120_5⟩ := f6 BK319.out; have hnb121 := NB318_320.out; have hnc121 := NB320_318.out; have hnb122 := NB318_327.out; have hnc122 := NB327_318.out; have hnb123 := NB318_328.out; have hnc123 := NB328_318.out; obtain ⟨hcz124_0, hcz124_1, hcz124_2, hcz124_3, hcz124_4, hcz124_5⟩ := c6 BK318.out; obtain ⟨hfz124_0, hfz124_1, hfz124_2, hfz124_3, hfz124_4, hfz124_5⟩ := f6 BK318.out; have hnb125 := NB328_320.out; have hnc125 := NB320_328.out; have hnb126 := NB328_327.out; have hnc126 := NB327_328.out; obtain ⟨hcz127_0, hcz127_1, hcz127_2, hcz127_3, hcz127_4, hcz127_5⟩ := c6 BK328.out; obtain ⟨hfz127_0, hfz127_1, hfz127_2, hfz127_3, hfz127_4, hfz127_5⟩ := f6 BK328.out; have hnb128 := NB327_320.out; have hnc128 := NB320_327.out; obtain ⟨hcz129_0, hcz129_1, hcz129_2, hcz129_3⟩ := c4 BK327.out; obtain ⟨hfz129_0, hfz129_1, hfz129_2, hfz129_3⟩ := f4 BK327.out
         go_wp2_with (first | ((with_reducible refine gate_callee (f := 16) rfl ?_); refine goesL_ (some 102) rfl rfl Tryd.func16 (by kernel_rfl) rfl #[.agg #[.int .i64 (wrap64 (a0_0 + a1_0)), .int .i64 (wrap64 ((wrap64 (a0_1 + a1_1)) - t324)), .int .i64 (wrap64 ((wrap64 (a0_2 + a1_2)) - t325)), .int .i64 (wrap64 ((wrap64 (a0_3 + a1_3)) - t326)), .string x329004_32, .string a1_5]] rfl (by (try simp only [List.map_toArray, List.map_cons, List.map_nil]); first | done | rfl | (simp only [List.length_drop, List.length_take]; rfl)) ?_; (with_reducible refine (galleyref05_Valid.calls kj32 (wrap64 (a0_0 + a1_0)) (wrap64 ((wrap64 (a0_1 + a1_1)) - t324)) (wrap64 ((wrap64 (a0_2 + a1_2)) - t325)) (wrap64 ((wrap64 (a0_3 + a1_3)) - t326)) x329004_32 a1_5 true _ A114.out).mono ?_); rintro e w130 ⟨rfl, hb⟩; refine ⟨_, rfl, ?_⟩; replace BK318 := Aside0.mk (blk_below (g := gb318) (o := .cells #[.int .i64 a0_0, .int .i64 a0_1, .int .i64 a0_2, .int .i64 a0_3, .string a0_4, .string a0_5] 26 (0, 0)) (by refine pl ?_; refine blk_far ?_ NB318_328.out _; refine pl ?_; refine blk_far ?_ NB318_328.out _; refine pl ?_; refine blk_far ?_ NB318_328.out _; refine pl ?_; refine blk_far ?_ NB318_328.out _; refine pl ?_; exact BK318.out) hb); replace BK319 := Aside0.mk (blk_below (g := gb319) (o := .cells #[.int .i64 a1_0, .int .i64 a1_1, .int .i64 a1_2, .int .i64 a1_3, .string a1_4, .string a1_5] 26 (0, 0)) (by refine pl ?_; refine blk_far ?_ NB319_328.out _; refine pl ?_; refine blk_far ?_ NB319_328.out _; refine pl ?_; refine blk_far ?_ NB319_328.out _; refine pl ?_; refine blk_far ?_ NB319_328.out _; refine pl ?_; exact BK319.out) hb); replace BK320 := Aside0.mk (blk_below (g := gb320) (o := .cells #[.int .i64 0, .int .i64 0, .int .i64 0, .int .i64 0, .string (⟨#[]⟩ : ByteArray), .string (⟨#[]⟩ : ByteArray)] 26 (0, 0)) (by refine pl ?_; refine blk_far ?_ NB320_328.out _; refine pl ?_; refine blk_far ?_ NB320_328.out _; refine pl ?_; refine blk_far ?_ NB320_328.out _; refine pl ?_; refine blk_far ?_ NB320_328.out _; refine pl ?_; exact BK320.out) hb); replace BK327 := Aside0.mk (blk_below (g := gb327) (o := .cells #[.int .i64 t323, .int .i64 t324, .int .i64 t325, .int .i64 t326] 24 (0, 0)) (by refine pl ?_; refine blk_far ?_ NB327_328.out _; refine pl ?_; refine blk_far ?_ NB327_328.out _; refine pl ?_; refine blk_far ?_ NB327_328.out _; refine pl ?_; refine blk_far ?_ NB327_328.out _; refine pl ?_; exact BK327.out) hb); replace BK328 := Aside0.mk (blk_below (g := gb328) (o := .cells #[.int .i64 (wrap64 (a0_0 + a1_0)), .int .i64 (wrap64 ((wrap64 (a0_1 + a1_1)) - t324)), .int .i64 (wrap64 ((wrap64 (a0_2 + a1_2)) - t325)), .int .i64 (wrap64 ((wrap64 (a0_3 + a1_3)) - t326)), .string x329004_32, .string a1_5] 26 (0, 0)) (by refine pl ?_; refine blk_put (cs := #[.int .i64 (wrap64 (a0_0 + a1_0)), .int .i64 (wrap64 ((wrap64 (a0_1 + a1_1)) - t324)), .int .i64 (wrap64 ((wrap64 (a0_2 + a1_2)) - t325)), .int .i64 0, .string x329004_32, .string a1_5]) ?_ 3 _ rfl; refine pl ?_; refine blk_put (cs := #[.int .i64 (wrap64 (a0_0 + a1_0)), .int .i64 (wrap64 ((wrap64 (a0_1 + a1_1)) - t324)), .int .i64 0, .int .i64 0, .string x329004_32, .string a1_5]) ?_ 2 _ rfl; refine pl ?_; refine blk_put (cs := #[.int .i64 (wrap64 (a0_0 + a1_0)), .int .i64 0, .int .i64 0, .int .i64 0, .string x329004_32, .string a1_5]) ?_ 1 _ rfl; refine pl ?_; refine blk_put (cs := #[.int .i64 0, .int .i64 0, .int .i64 0, .int .i64 0, .string x329004_32, .string a1_5]) ?_ 0 _ rfl; refine pl ?_; exact BK328.out) hb); replace HB := Aside0.mk (below_step (by repeat (first | (with_reducible first | exact HB.out | apply below_alloc | apply pw_below_drewN | apply below_drew1 | refine below_set ?_ GE318.out | refine below_set ?_ GE319.out | refine below_set ?_ GE320.out | refine below_set ?_ GE327.out | refine below_set ?_ GE328.out) | exact HB.out)) hb); (try clear hb); (try clear hb2); (try clear hk); (try clear hi); obtain ⟨hcz131_0, hcz131_1, hcz131_2, hcz131_3, hcz131_4, hcz131_5⟩ := c6 BK328.out; obtain ⟨hfz131_0, hfz131_1, hfz131_2, hfz131_3, hfz131_4, hfz131_5⟩ := f6 BK328.out; obtain ⟨hcz132_0, hcz132_1, hcz132_2, hcz132_3, hcz132_4, hcz132_5⟩ := c6 BK320.out; obtain ⟨hfz132_0, hfz132_1, hfz132_2, hfz132_3, hfz132_4, hfz132_5⟩ := f6 BK320.out))
         refine bodyPost_ret (results_ct rfl _ _ gb320 26 #[.int .i64 (wrap64 (a0_0 + a1_0)), .int .i64 (wrap64 ((wrap64 (a0_1 + a1_1)) - t324)), .int .i64 (wrap64 ((wrap64 (a0_2 + a1_2)) - t325)), .int .i64 (wrap64 ((wrap64 (a0_3 + a1_3)) - t326)), .string x329004_32, .string a1_5] (0, 0) _ rfl (by refine pl ?_; refine blk_put (cs := #[.int .i64 (wrap64 (a0_0 + a1_0)), .int .i64 (wrap64 ((wrap64 (a0_1 + a1_1)) - t324)), .int .i64 (wrap64 ((wrap64 (a0_2 + a1_2)) - t325)), .int .i64 (wrap64 ((wrap64 (a0_3 + a1_3)) - t326)), .string x329004_32, .string (⟨#[]⟩ : ByteArray)]) ?_ 5 _ rfl; refine pl ?_; refine blk_put (cs := #[.int .i64 (wrap64 (a0_0 + a1_0)), .int .i64 (wrap64 ((wrap64 (a0_1 + a1_1)) - t324)), .int .i64 (wrap64 ((wrap64 (a0_2 + a1_2)) - t325)), .int .i64 (wrap64 ((wrap64 (a0_3 + a1_3)) - t326)), .string (⟨#[]⟩ : ByteArray), .string (⟨#[]⟩ : ByteArray)]) ?_ 4 _ rfl; refine pl ?_; refine blk_put (cs := #[.int .i64 (wrap64 (a0_0 + a1_0)), .int .i64 (wrap64 ((wrap64 (a0_1 + a1_1)) - t324)), .int .i64 (wrap64 ((wrap64 (a0_2 + a1_2)) - t325)), .int .i64 0, .string (⟨#[]⟩ : ByteArray), .string (⟨#[]⟩ : ByteArray)]) ?_ 3 _ rfl; refine pl ?_; refine blk_put (cs := #[.int .i64 (wrap64 (a0_0 + a1_0)), .int .i64 (wrap64 ((wrap64 (a0_1 + a1_1)) - t324)), .int .i64 0, .int .i64 0, .string (⟨#[]⟩ : ByteArray), .string (⟨#[]⟩ : ByteArray)]) ?_ 2 _ rfl; refine pl ?_; refine blk_put (cs := #[.int .i64 (wrap64 (a0_0 + a1_0)), .int .i64 0, .int .i64 0, .int .i64 0, .string (⟨#[]⟩ : ByteArray), .string (⟨#[]⟩ : ByteArray)]) ?_ 1 _ rfl; refine pl ?_; refine blk_put (cs := #[.int .i64 0, .int .i64 0, .int .i64 0, .int .i64 0, .string (⟨#[]⟩ : ByteArray), .string (⟨#[]⟩ : ByteArray)]) ?_ 0 _ rfl; refine pl ?_; exact BK320.out) Tryd.underlying26 rfl (by kernel_rfl)) rfl ?_
         exact ⟨by first | rfl | (simp [errW_none, errW_some] <;> rfl) | (simp [*, errW_none, errW_some] <;> rfl), by repeat (first | (with_reducible first | exact HB.out | apply below_alloc | apply pw_below_drewN | apply below_drew1 | refine below_set ?_ GE318.out | refine below_set ?_ GE319.out | refine below_set ?_ GE320.out | refine below_set ?_ GE327.out | refine below_set ?_ GE328.out) | exact HB.out)⟩
        ·replace c115 := Bool.eq_false_iff.mpr c115
         subst c115
         have H1 : (some (0, 0, 0, 0, (⟨#[]⟩ : ByteArray), (⟨#[]⟩ : ByteArray), 50)) = some (r1, r2, r3, r4, r5, r6, r7) := by rw [if_neg (show ¬ (false = true) by decide)] at H; exact H
         clear H; have H := H1; clear H1
         simp only [Option.some.injEq, Prod.mk.injEq] at H
         obtain ⟨rfl, rfl, rfl, rfl, rfl, rfl, rfl⟩ := H
         have hnb133 := NB319_318.out; have hnc133 := NB318_319.out; have hnb134 := NB319_320.out; have hnc134 := NB320_319.out; have hnb135 := NB319_327.out; have hnc135 := NB327_319.out; have hnb136 := NB319_328.out; have hnc136 := NB328_319.out; obtain ⟨hcz137_0, hcz137_1, hcz137_2, hcz137_3, hcz137_4, hcz137_5⟩ := c6 BK319.out; obtain ⟨hfz137_0, hfz137_1, hfz137_2, hfz137_3, hfz137_4, hfz137_5⟩ := f6 BK319.out; have hnb138 := NB318_320.out; have hnc138 := NB320_318.out; have hnb139 := NB318_327.out; have hnc139 := NB327_318.out; have hnb140 := NB318_328.out; have hnc140 := NB328_318.out; obtain ⟨hcz141_0, hcz141_1, hcz141_2, hcz141_3, hcz141_4, hcz141_5⟩ := c6 BK318.out; obtain ⟨hfz141_0, hfz141_1, hfz141_2, hfz141_3, hfz141_4, hfz141_5⟩ := f6 BK318.out; have hnb142 := NB328_320.out; have hnc142 := NB320_328.out; have hnb143 := NB328_327.out; have hnc143 := NB327_328.out; obtain ⟨hcz144_0, hcz144_1, hcz144_2, hcz144_3, hcz144_4, hcz144_5⟩ := c6 BK328.out; obtain ⟨hfz144_0, hfz144_1, hfz144_2, hfz144_3, hfz144_4, hfz144_5⟩ := f6 BK328.out; have hnb145 := NB327_320.out; have hnc145 := NB320_327.out; obtain ⟨hcz146_0, hcz146_1, hcz146_2, hcz146_3⟩ := c4 BK327.out; obtain ⟨hfz146_0, hfz146_1, hfz146_2, hfz146_3⟩ := f4 BK327.out
         go_wp2_with (first | ((with_reducible refine gate_callee (f := 16) rfl ?_); refine goesL_ (some 102) rfl rfl Tryd.func16 (by kernel_rfl) rfl #[.agg #[.int .i64 (wrap64 (a0_0 + a1_0)), .int .i64 (wrap64 ((wrap64 (a0_1 + a1_1)) - t324)), .int .i64 (wrap64 ((wrap64 (a0_2 + a1_2)) - t325)), .int .i64 (wrap64 ((wrap64 (a0_3 + a1_3)) - t326)), .string x329004_32, .string a1_5]] rfl (by (try simp only [List.map_toArray, List.map_cons, List.map_nil]); first | done | rfl | (simp only [List.length_drop, List.length_take]; rfl)) ?_; (with_reducible refine (galleyref05_Valid.calls kj32 (wrap64 (a0_0 + a1_0)) (wrap64 ((wrap64 (a0_1 + a1_1)) - t324)) (wrap64 ((wrap64 (a0_2 + a1_2)) - t325)) (wrap64 ((wrap64 (a0_3 + a1_3)) - t326)) x329004_32 a1_5 false _ A114.out).mono ?_); rintro e w147 ⟨rfl, hb⟩; refine ⟨_, rfl, ?_⟩; replace BK318 := Aside0.mk (blk_below (g := gb318) (o := .cells #[.int .i64 a0_0, .int .i64 a0_1, .int .i64 a0_2, .int .i64 a0_3, .string a0_4, .string a0_5] 26 (0, 0)) (by refine pl ?_; refine blk_far ?_ NB318_328.out _; refine pl ?_; refine blk_far ?_ NB318_328.out _; refine pl ?_; refine blk_far ?_ NB318_328.out _; refine pl ?_; refine blk_far ?_ NB318_328.out _; refine pl ?_; exact BK318.out) hb); replace BK319 := Aside0.mk (blk_below (g := gb319) (o := .cells #[.int .i64 a1_0, .int .i64 a1_1, .int .i64 a1_2, .int .i64 a1_3, .string a1_4, .string a1_5] 26 (0, 0)) (by refine pl ?_; refine blk_far ?_ NB319_328.out _; refine pl ?_; refine blk_far ?_ NB319_328.out _; refine pl ?_; refine blk_far ?_ NB319_328.out _; refine pl ?_; refine blk_far ?_ NB319_328.out _; refine pl ?_; exact BK319.out) hb); replace BK320 := Aside0.mk (blk_below (g := gb320) (o := .cells #[.int .i64 0, .int .i64 0, .int .i64 0, .int .i64 0, .string (⟨#[]⟩ : ByteArray), .string (⟨#[]⟩ : ByteArray)] 26 (0, 0)) (by refine pl ?_; refine blk_far ?_ NB320_328.out _; refine pl ?_; refine blk_far ?_ NB320_328.out _; refine pl ?_; refine blk_far ?_ NB320_328.out _; refine pl ?_; refine blk_far ?_ NB320_328.out _; refine pl ?_; exact BK320.out) hb); replace BK327 := Aside0.mk (blk_below (g := gb327) (o := .cells #[.int .i64 t323, .int .i64 t324, .int .i64 t325, .int .i64 t326] 24 (0, 0)) (by refine pl ?_; refine blk_far ?_ NB327_328.out _; refine pl ?_; refine blk_far ?_ NB327_328.out _; refine pl ?_; refine blk_far ?_ NB327_328.out _; refine pl ?_; refine blk_far ?_ NB327_328.out _; refine pl ?_; exact BK327.out) hb); replace BK328 := Aside0.mk (blk_below (g := gb328) (o := .cells #[.int .i64 (wrap64 (a0_0 + a1_0)), .int .i64 (wrap64 ((wrap64 (a0_1 + a1_1)) - t324)), .int .i64 (wrap64 ((wrap64 (a0_2 + a1_2)) - t325)), .int .i64 (wrap64 ((wrap64 (a0_3 + a1_3)) - t326)), .string x329004_32, .string a1_5] 26 (0, 0)) (by refine pl ?_; refine blk_put (cs := #[.int .i64 (wrap64 (a0_0 + a1_0)), .int .i64 (wrap64 ((wrap64 (a0_1 + a1_1)) - t324)), .int .i64 (wrap64 ((wrap64 (a0_2 + a1_2)) - t325)), .int .i64 0, .string x329004_32, .string a1_5]) ?_ 3 _ rfl; refine pl ?_; refine blk_put (cs := #[.int .i64 (wrap64 (a0_0 + a1_0)), .int .i64 (wrap64 ((wrap64 (a0_1 + a1_1)) - t324)), .int .i64 0, .int .i64 0, .string x329004_32, .string a1_5]) ?_ 2 _ rfl; refine pl ?_; refine blk_put (cs := #[.int .i64 (wrap64 (a0_0 + a1_0)), .int .i64 0, .int .i64 0, .int .i64 0, .string x329004_32, .string a1_5]) ?_ 1 _ rfl; refine pl ?_; refine blk_put (cs := #[.int .i64 0, .int .i64 0, .int .i64 0, .int .i64 0, .string x329004_32, .string a1_5]) ?_ 0 _ rfl; refine pl ?_; exact BK328.out) hb); replace HB := Aside0.mk (below_step (by repeat (first | (with_reducible first | exact HB.out | apply below_alloc | apply pw_below_drewN | apply below_drew1 | refine below_set ?_ GE318.out | refine below_set ?_ GE319.out | refine below_set ?_ GE320.out | refine below_set ?_ GE327.out | refine below_set ?_ GE328.out) | exact HB.out)) hb); (try clear hb); (try clear hb2); (try clear hk); (try clear hi); obtain ⟨hcz148_0, hcz148_1, hcz148_2, hcz148_3, hcz148_4, hcz148_5⟩ := c6 BK320.out; obtain ⟨hfz148_0, hfz148_1, hfz148_2, hfz148_3, hfz148_4, hfz148_5⟩ := f6 BK320.out))
         refine bodyPost_ret (results_ct rfl _ _ gb320 26 #[.int .i64 0, .int .i64 0, .int .i64 0, .int .i64 0, .string (⟨#[]⟩ : ByteArray), .string (⟨#[]⟩ : ByteArray)] (0, 0) _ rfl (by refine pl ?_; refine blk_put (cs := #[.int .i64 0, .int .i64 0, .int .i64 0, .int .i64 0, .string (⟨#[]⟩ : ByteArray), .string (⟨#[]⟩ : ByteArray)]) ?_ 5 _ rfl; refine pl ?_; refine blk_put (cs := #[.int .i64 0, .int .i64 0, .int .i64 0, .int .i64 0, .string (⟨#[]⟩ : ByteArray), .string (⟨#[]⟩ : ByteArray)]) ?_ 4 _ rfl; refine pl ?_; refine blk_put (cs := #[.int .i64 0, .int .i64 0, .int .i64 0, .int .i64 0, .string (⟨#[]⟩ : ByteArray), .string (⟨#[]⟩ : ByteArray)]) ?_ 3 _ rfl; refine pl ?_; refine blk_put (cs := #[.int .i64 0, .int .i64 0, .int .i64 0, .int .i64 0, .string (⟨#[]⟩ : ByteArray), .string (⟨#[]⟩ : ByteArray)]) ?_ 2 _ rfl; refine pl ?_; refine blk_put (cs := #[.int .i64 0, .int .i64 0, .int .i64 0, .int .i64 0, .string (⟨#[]⟩ : ByteArray), .string (⟨#[]⟩ : ByteArray)]) ?_ 1 _ rfl; refine pl ?_; refine blk_put (cs := #[.int .i64 0, .int .i64 0, .int .i64 0, .int .i64 0, .string (⟨#[]⟩ : ByteArray), .string (⟨#[]⟩ : ByteArray)]) ?_ 0 _ rfl; refine pl ?_; exact BK320.out) Tryd.underlying26 rfl (by kernel_rfl)) rfl ?_
         exact ⟨by first | rfl | (simp [errW_none, errW_some] <;> rfl) | (simp [*, errW_none, errW_some] <;> rfl), by repeat (first | (with_reducible first | exact HB.out | apply below_alloc | apply pw_below_drewN | apply below_drew1 | refine below_set ?_ GE318.out | refine below_set ?_ GE319.out | refine below_set ?_ GE320.out | refine below_set ?_ GE327.out | refine below_set ?_ GE328.out) | exact HB.out)⟩
end Go.Proofs.YtaojbcplmdjfnaaDoor.Pr

namespace Go.Proofs.YtaojbcplmdjfnaaDoor.Pr
open Go.RowKit Go.Proofs.YtaojbcplmdjfnaaDoorW.PrintWords Go.Proofs.YtaojbcplmdjfnaaDoorW.PrintLast Go.Proofs.YtaojbcplmdjfnaaDoorW.PrintMore
set_option linter.unusedVariables false
set_option linter.unusedSimpArgs false
theorem C_lit (w : World) (e : TypeId) (xs : List Int) (fr : Nat × Nat) (h : xs.length ≤ 9223372036854775807) :
    Kd.C (Kd.int .u8) (w.alloc (.cells (xs.map (Value.int .u8)).toArray e fr)) (some ⟨w.heap.size, 0, none⟩) xs.length xs := by
  refine Kd.C_of_reads (d := (0 : Int)) (h1 := fun _ => rfl) ⟨rfl, h, fun _ => ⟨_, rfl, fun j hj => ?_⟩⟩
  rw [add_plain, cell_of_row _ _ j _ e fr (heap_alloc_new w _)]
  simp [List.getElem?_eq_getElem hj, List.getD_eq_getElem?_getD]
def galleylaw05_fixed.f : Option Bool := some true
set_option maxRecDepth 100000 in
theorem fx1 : weld_Of.f [240, 159] = some (2, 2, 2, 0, ⟨#[240, 159]⟩, ⟨#[240, 159]⟩) := by kernel_rfl
set_option maxRecDepth 100000 in
theorem fx2 : weld_Of.f [152, 128, 13] = some (3, 3, 3, 1, ⟨#[152, 128, 13]⟩, ⟨#[152, 128, 13]⟩) := by kernel_rfl
set_option maxRecDepth 100000 in
theorem fx3 : weld_Join.f 30 2 2 2 0 ⟨#[240, 159]⟩ ⟨#[240, 159]⟩ 3 3 3 1 ⟨#[152, 128, 13]⟩ ⟨#[152, 128, 13]⟩ = some (5, 2, 3, 1, ⟨#[240, 159, 152]⟩, ⟨#[152, 128, 13]⟩, 0) := by kernel_rfl
set_option maxRecDepth 100000 in
theorem fx4 : weld_Seam.f 30 2 2 2 0 ⟨#[240, 159]⟩ ⟨#[240, 159]⟩ 3 3 3 1 ⟨#[152, 128, 13]⟩ ⟨#[152, 128, 13]⟩ = some (0, 3, 2, 0, 0) := by kernel_rfl
set_option maxRecDepth 100000 in
theorem fx5 : weld_Valid.f 30 5 2 3 1 ⟨#[240, 159, 152]⟩ ⟨#[152, 128, 13]⟩ = some true := by kernel_rfl
theorem weld_cells {W : World} {b : Nat} {i1 i2 i3 i4 : Int} {s1 s2 : ByteArray} {t : TypeId} {fr : Nat × Nat} (h : W.heap[b]? = some (.cells #[.int .i64 i1, .int .i64 i2, .int .i64 i3, .int .i64 i4, .string s1, .string s2] t fr)) :
    W.cell? ⟨b, 0, none⟩ = some (.int .i64 i1) ∧ W.cell? ⟨b, 1, none⟩ = some (.int .i64 i2) ∧ W.cell? ⟨b, 2, none⟩ = some (.int .i64 i3) ∧ W.cell? ⟨b, 3, none⟩ = some (.int .i64 i4) ∧ W.cell? ⟨b, 4, none⟩ = some (.string s1) ∧ W.cell? ⟨b, 5, none⟩ = some (.string s2) := by
  refine ⟨?_, ?_, ?_, ?_, ?_, ?_⟩ <;> (rw [cell_of_row _ _ _ _ _ _ h]; rfl)
set_option maxHeartbeats 8000000 in
set_option maxRecDepth 100000 in
theorem galleylaw05_fixed.calls (r : Bool) (w : World) (hG : Glob.Globs w) (h : galleylaw05_fixed.f = some r) :
    Calls Tryd.prog 10 #[] w fun e w' => e = .returned (.bool r) ∧ Below w.heap.size w w' := by
  obtain rfl : true = r := Option.some.inj h
  clear h
  have HG := Lib.hid hG
  clear hG
  have kc := fun (w : World) (C : Array Value) (n c : Nat) => Lib.run_convert_bytes_const (P := Tryd.prog) w 29 5 C n c Tryd.underlying29 Tryd.underlying5
  go_enter Tryd.func10, Tryd.ntmps10
  go_wp2_with fail
  refine (weld_Of.calls _ 2 [240, 159] 2 2 2 0 _ _ _ (Glob.Globs_alloc HG.out _) (C_lit w 5 [240, 159] (2, 3) (by decide)) (by decide) fx1).mono ?_
  rintro e w1 ⟨rfl, hb1⟩
  have B1 : Below w.heap.size w w1 := below_step ((Below.refl _ w).alloc (Nat.le_refl _) _) hb1
  have BB1 := Lib.hid B1
  clear B1 hb1
  go_wp2_with fail
  refine (weld_Of.calls _ 3 [152, 128, 13] 3 3 3 1 _ _ _ (Glob.Globs_alloc (Glob.Globs_below HG.out BB1.out) _) (C_lit w1 5 [152, 128, 13] (3, 4) (by decide)) (by decide) fx2).mono ?_
  rintro e w2 ⟨rfl, hb2⟩
  have B2 : Below w.heap.size w w2 := below_step (BB1.out.alloc BB1.out.size _) hb2
  have BB2 := Lib.hid B2
  clear B2 hb2
  go_wp2_with fail
  refine (weld_Join.calls 30 2 2 2 0 _ _ 3 3 3 1 _ _ 5 2 3 1 _ _ 0 _ ?gj fx3).mono ?_
  case gj => repeat (first | exact Glob.Globs_below HG.out BB2.out | (with_reducible refine Glob.Globs_alloc ?_ _))
  rintro e w3 ⟨rfl, hb3⟩
  have ha := (hb3.block _ (by simp; omega)).trans (blk_alloc (blk_new w2 _) _)
  have hB := (hb3.block _ (by simp)).trans (blk_new (w2.alloc _) _)
  simp only [World.size_alloc] at hB
  have B3 := Lib.hid (below_step ((BB2.out.alloc BB2.out.size _).alloc (Nat.le_trans BB2.out.size (by simp)) _) hb3)
  have hsz : w2.heap.size < w3.heap.size := by have := hb3.size; simp at this; omega
  have hsz1 : w2.heap.size + 1 < w3.heap.size := by have := hb3.size; simp at this; omega
  clear hb3
  have HA := Lib.hid ha
  have HBB := Lib.hid hB
  obtain ⟨a1, a2, a3, a4, a5, a6⟩ := weld_cells ha
  obtain ⟨b1, b2, b3, b4, b5, b6⟩ := weld_cells hB
  clear ha hB
  go_wp2_with fail
  refine (weld_Seam.calls 30 2 2 2 0 _ _ 3 3 3 1 _ _ 0 3 2 0 0 _ ?gj2 fx4).mono ?_
  case gj2 => repeat (first | exact Glob.Globs_below HG.out B3.out | (with_reducible refine Glob.Globs_alloc ?_ _))
  rintro e w4 ⟨rfl, hb4⟩
  have hA4 := (hb4.block _ (by simp; omega)).trans (blk_alloc HA.out _)
  have hC4 := (hb4.block _ (by simp)).trans (blk_new w3 _)
  have B4 := Lib.hid (below_step (B3.out.alloc B3.out.size _) hb4)
  have hsz4 : w3.heap.size < w4.heap.size := by have := hb4.size; simp at this; omega
  have hsz5 : w2.heap.size < w4.heap.size := by omega
  clear hb4 a1 a2 a3 a4 a5 a6 b1 b2 b3 b4 b5 b6
  have HC4 := Lib.hid hC4
  obtain ⟨a1, a2, a3, a4, a5, a6⟩ := weld_cells hA4
  obtain ⟨c1, c2, c3, c4, c5, c6⟩ := weld_cells hC4
  clear hA4 hC4
  go_wp2_with fail
  refine (weld_Valid.calls 30 5 2 3 1 _ _ true _ ?gj3 fx5).mono ?_
  case gj3 => repeat (first | exact Glob.Globs_below HG.out B4.out | (with_reducible refine Glob.Globs_alloc ?_ _))
  rintro e w5 ⟨rfl, hb5⟩
  have B5 := Lib.hid (below_step (B4.out.alloc B4.out.size _) hb5)
  clear hb5
  go_wp2_with fail
  go_ret
  exact ⟨rfl, B5.out⟩
end Go.Proofs.YtaojbcplmdjfnaaDoor.Pr

namespace Go.Proofs.YtaojbcplmdjfnaaDoor.PuSm
open Go.RowKit Go.Proofs.YtaojbcplmdjfnaaDoor.Pr Go.Proofs.YtaojbcplmdjfnaaDoor.Math Go.Proofs.YtaojbcplmdjfnaaDoor.Ev Go.Proofs.YtaojbcplmdjfnaaDoor.PuSz Go.Proofs.YtaojbcplmdjfnaaDoor.PuMs Go.Proofs.YtaojbcplmdjfnaaDoorW.PrintWords Go.Proofs.YtaojbcplmdjfnaaDoorW.PrintLast Go.Proofs.YtaojbcplmdjfnaaDoorW.PrintMore
set_option linter.unusedVariables false
set_option linter.unusedSimpArgs false
def uL (n : Nat) : Int := if n = 4 then 2 else 1
theorem uL_range (n : Nat) : 1 ≤ uL n ∧ uL n ≤ 2 := by unfold uL; split <;> omega
def swI (k L : Nat) (p : Int × Int) : Int × Int := if k < L then ((L : Int) - 1, (L : Int) - uL L) else p
theorem seamR_swI (A B : List Int) (k : Nat) (h1 : 1 ≤ k) (h2 : k ≤ A.length) : seamR (A.drop (A.length - k)) B = swI k (lg (A.drop (A.length - k) ++ B)) (seamR (A.drop (A.length - (k - 1))) B) := by
  have hd : A.drop (A.length - k) = A[A.length - k] :: A.drop (A.length - (k - 1)) := by
    rw [List.drop_eq_getElem_cons (show A.length - k < A.length by omega), show A.length - k + 1 = A.length - (k - 1) by omega]
  rw [hd, seamR]
  unfold swI uL
  have hl : (A.drop (A.length - (k - 1))).length + 1 = k := by rw [List.length_drop]; omega
  rw [hl]
theorem cut_lg (S B : List Int) (hS : 1 ≤ S.length) (j : Nat) (h1 : 1 ≤ j) (h2 : j ≤ B.length) : lg (S ++ B.take j) = S.length + j ↔ lg (S ++ B) = S.length + j := by
  have e : S ++ B = (S ++ B.take j) ++ B.drop j := by rw [List.append_assoc, List.take_append_drop]
  constructor
  · intro h
    rw [e, lg_append _ _ (by omega), h]
  · intro h
    rw [e] at h
    rw [lg_of_append (S ++ B.take j) (B.drop j) (by omega) (by rw [h, List.length_append, List.length_take]; omega), h]
theorem bt_bo (s : ByteArray) (i : Int) (h : i.toNat < s.size) : bt s i = (bytesOf s).getD i.toNat (-1) := by
  rw [← rd_bytesOf, rd_getD _ _ (by rw [bytesOf_length]; exact h)]
def cutS (A B : List Int) (k j : Nat) : List Int := A.drop (A.length - k) ++ B.take j
theorem cutS_len (A B : List Int) (k j : Nat) (h : k ≤ A.length) (h' : j ≤ B.length) : (cutS A B k j).length = k + j := by unfold cutS; rw [List.length_append, List.length_drop, List.length_take]; omega
theorem cutS_byt {A B : List Int} (hA : Byt A) (hB : Byt B) (k j : Nat) : Byt (cutS A B k j) := (hA.drop _).append (hB.take _)
theorem cutS_lg (A B : List Int) (k j : Nat) (h1 : 1 ≤ k) (h2 : k ≤ A.length) (h3 : 1 ≤ j) (h4 : j ≤ B.length) : lg (cutS A B k j) = k + j ↔ lg (A.drop (A.length - k) ++ B) = k + j := by
  have e : (A.drop (A.length - k)).length = k := by rw [List.length_drop]; omega
  have := cut_lg (A.drop (A.length - k)) B (by omega) j h3 h4
  rw [e] at this
  exact this
theorem cutS_ba (s t : ByteArray) (k j : Nat) (h : k ≤ s.size) : bytesOf (s.extract (((s.size - k : Nat) : Int)).toNat s.size ++ t.extract 0 ((j : Int)).toNat) = cutS (bytesOf s) (bytesOf t) k j := by
  rw [bo_append, Int.toNat_natCast, Int.toNat_natCast, ex_tail, bo_extract, List.drop_zero, Nat.sub_zero, bytesOf_length s |>.symm]
  rfl
section
variable (a0 a1 a2 a3 b0 b1 b2 b3 : Int) (aH aT bH bT : ByteArray)
theorem w_l1_next (k kk j : Nat) (z1 z2 : Int) (h1 : 1 ≤ kk) (h2 : kk ≤ aT.size) (h3 : 1 ≤ j) (h4 : j ≤ bH.size) (hs : aT.size ≤ 3) (ht : bH.size ≤ 3) :
    weld_seam.l1 (k + 10) kk j a0 a1 a2 a3 aH aT b0 b1 b2 b3 bH bT 0 z1 z2 0 =
      (if lg ((bytesOf aT).drop (aT.size - kk) ++ bytesOf bH) = kk + j then weld_seam.l1 (k + 9) kk ((j + 1 : Nat) : Int) a0 a1 a2 a3 aH aT b0 b1 b2 b3 bH bT 0 ((kk + j : Nat) - 1) ((kk + j : Nat) - uL (kk + j)) 0
       else weld_seam.l1 (k + 9) kk ((j + 1 : Nat) : Int) a0 a1 a2 a3 aH aT b0 b1 b2 b3 bH bT 0 z1 z2 0) := by
  have hB := bo_byt bH
  have hA := bo_byt aT
  have hl := cutS_len (bytesOf aT) (bytesOf bH) kk j (by rw [bytesOf_length]; exact h2) (by rw [bytesOf_length]; exact h4)
  have hne : cutS (bytesOf aT) (bytesOf bH) kk j ≠ [] := fun h => by rw [h] at hl; simp at hl; omega
  have hv := val_lg _ (cutS_byt hA hB kk j) hne
  have hc := cutS_lg (bytesOf aT) (bytesOf bH) kk j h1 (by rw [bytesOf_length]; exact h2) h3 (by rw [bytesOf_length]; exact h4)
  rw [bytesOf_length] at hc
  rw [hl, hc] at hv
  have e1 : wrap64 ((aT.size : Int) - (kk : Int)) = ((aT.size - kk : Nat) : Int) := by rw [w64 (by omega) (by omega)]; omega
  have e2 : wrap64 ((j : Int) + 1) = ((j + 1 : Nat) : Int) := by rw [w64 (by omega) (by omega)]; rfl
  have e3 : wrap64 ((kk : Int) + (j : Int)) = ((kk + j : Nat) : Int) := by rw [w64 (by omega) (by omega)]; omega
  have hcb := cutS_ba aT bH kk j h2
  have hvr := val_range (cutS (bytesOf aT) (bytesOf bH) kk j) (cutS_byt hA hB kk j)
  rw [weld_seam.l1, if_pos (by omega), e1, if_pos (by omega), if_pos (by omega), if_pos (by omega)]
  rw [if_pos (by rw [ByteArray.size_extract, ByteArray.size_extract]; omega), if_pos (by rw [← bytesOf_length, hcb, hl]; omega), hcb, o_Value k _ (cutS_byt hA hB kk j), Option.bind_some, e2, e3]
  by_cases hg : lg ((bytesOf aT).drop (aT.size - kk) ++ bytesOf bH) = kk + j
  · rw [if_pos hg, if_pos (hv.1.2 hg)]
    have hu : weld_units.f (val (cutS (bytesOf aT) (bytesOf bH) kk j)) = some (uL (kk + j)) := by
      unfold weld_units.f uL
      have h5 := hv.2 hg
      rw [hc.2 hg] at h5
      by_cases h6 : kk + j = 4
      · rw [if_pos (h5.2 h6), if_pos h6]
      · rw [if_neg (fun c => h6 (h5.1 c)), if_neg h6]
    have hur := uL_range (kk + j)
    rw [hu, Option.bind_some, w64 (n := ((kk + j : Nat) : Int) - 1) (by omega) (by omega), w64 (n := ((kk + j : Nat) : Int) - uL (kk + j)) (by omega) (by omega)]
  · rw [if_neg hg, if_neg (fun c => hg (hv.1.1 c))]
theorem w_l1_end (k kk j : Nat) (z1 z2 : Int) (h1 : kk ≤ 3) (h : bH.size < j) : weld_seam.l1 (k + 1) kk j a0 a1 a2 a3 aH aT b0 b1 b2 b3 bH bT 0 z1 z2 0 = weld_seam.l0 k ((kk + 1 : Nat) : Int) a0 a1 a2 a3 aH aT b0 b1 b2 b3 bH bT 0 z1 z2 0 := by
  rw [weld_seam.l1, if_neg (by omega), w64 (by omega) (by omega)]
  rfl
theorem w_l1 (kk : Nat) (h1 : 1 ≤ kk) (h2 : kk ≤ aT.size) (hs : aT.size ≤ 3) (ht : bH.size ≤ 3) (p : Int × Int) (L : Nat) (hL : lg ((bytesOf aT).drop (aT.size - kk) ++ bytesOf bH) = L) (d : Nat) :
    ∀ (k j : Nat) (z : Int × Int), 1 ≤ j → j + d = bH.size + 1 → z = (if kk < L ∧ L - kk < j then ((L : Int) - 1, (L : Int) - uL L) else p) →
      weld_seam.l1 (k + 10 + d) kk j a0 a1 a2 a3 aH aT b0 b1 b2 b3 bH bT 0 z.1 z.2 0 = weld_seam.l0 (k + 9) ((kk + 1 : Nat) : Int) a0 a1 a2 a3 aH aT b0 b1 b2 b3 bH bT 0 (swI kk L p).1 (swI kk L p).2 0 := by
  have hll : L ≤ kk + bH.size := by
    have := lg_len ((bytesOf aT).drop (aT.size - kk) ++ bytesOf bH)
    rw [hL, List.length_append, List.length_drop, bytesOf_length, bytesOf_length] at this
    omega
  induction d with
  | zero =>
    intro k j z hj hd hz
    rw [show k + 10 + 0 = (k + 9) + 1 from rfl, w_l1_end a0 a1 a2 a3 b0 b1 b2 b3 aH aT bH bT (k + 9) kk j z.1 z.2 (by omega) (by omega)]
    have : z = swI kk L p := by
      rw [hz]
      unfold swI
      by_cases h : kk < L
      · rw [if_pos ⟨h, by omega⟩, if_pos h]
      · rw [if_neg (fun c => h c.1), if_neg h]
    rw [this]
  | succ d ih =>
    intro k j z hj hd hz
    have hn := w_l1_next a0 a1 a2 a3 b0 b1 b2 b3 aH aT bH bT (k + d + 1) kk j z.1 z.2 h1 h2 hj (by omega) hs ht
    rw [show k + 10 + (d + 1) = k + d + 1 + 10 by omega, hn, hL]
    by_cases hg : L = kk + j
    · rw [if_pos hg, ← hg]
      have := ih k (j + 1) ((L : Int) - 1, (L : Int) - uL L) (by omega) (by omega) (by rw [if_pos ⟨by omega, by omega⟩])
      rw [show k + d + 1 + 9 = k + 10 + d by omega]
      exact this
    · rw [if_neg hg]
      have := ih k (j + 1) z (by omega) (by omega) (by
        rw [hz]
        by_cases h : kk < L ∧ L - kk < j
        · rw [if_pos h, if_pos ⟨h.1, by omega⟩]
        · rw [if_neg h, if_neg (fun c => h ⟨c.1, by omega⟩)])
      rw [show k + d + 1 + 9 = k + 10 + d by omega]
      exact this
theorem w_l0_end (k kk : Nat) (z1 z2 : Int) (h : aT.size < kk) (hs : aT.size ≤ 3) (ht : bH.size ≤ 3) : weld_seam.l0 (k + 1) kk a0 a1 a2 a3 aH aT b0 b1 b2 b3 bH bT 0 z1 z2 0 = some (0, z1, z2, seamE (bytesOf aT) (bytesOf bH)) := by
  rw [weld_seam.l0, if_neg (by omega)]
  unfold weld_tailIs.f seamE
  rw [bytesOf_length]
  by_cases ha : (aT.size : Int) > 0
  · have e : wrap64 ((aT.size : Int) - 1) = ((aT.size - 1 : Nat) : Int) := by rw [w64 (by omega) (by omega)]; omega
    rw [if_pos ha, e, if_pos (by omega), if_pos (by omega), Option.bind_some, bt_bo aT _ (by simp; omega)]
    simp only [Int.toNat_natCast, beq_iff_eq]
    by_cases h13 : (bytesOf aT).getD (aT.size - 1) (-1) = 13
    · rw [if_pos h13]
      by_cases hb : (bH.size : Int) > 0
      · rw [if_pos hb, if_pos (by omega), bt_bo bH _ (by simp; omega)]
        simp only [Int.toNat_zero]
        by_cases h10 : (bytesOf bH).getD 0 (-1) = 10
        · rw [if_pos h10, if_pos ⟨h13, h10⟩]
        · rw [if_neg h10, if_neg (fun c => h10 c.2)]
      · rw [if_neg hb, if_neg (fun c => by rw [getD_m1 _ 0 (by rw [bytesOf_length]; omega)] at c; omega)]
    · rw [if_neg h13, if_neg (fun c => h13 c.1)]
  · rw [if_neg ha, Option.bind_some, if_neg (by decide), if_neg (fun c => by rw [getD_m1 _ _ (by rw [bytesOf_length]; omega)] at c; omega)]
theorem w_l0 (hs : aT.size ≤ 3) (ht : bH.size ≤ 3) (d : Nat) : ∀ (k kk : Nat) (z : Int × Int), 1 ≤ kk → kk + d = aT.size + 1 → z = seamR ((bytesOf aT).drop (aT.size - (kk - 1))) (bytesOf bH) →
    weld_seam.l0 (k + 20 + 20 * d) kk a0 a1 a2 a3 aH aT b0 b1 b2 b3 bH bT 0 z.1 z.2 0 = some (0, (seamR (bytesOf aT) (bytesOf bH)).1, (seamR (bytesOf aT) (bytesOf bH)).2, seamE (bytesOf aT) (bytesOf bH)) := by
  induction d with
  | zero =>
    intro k kk z hk hd hz
    rw [show k + 20 + 20 * 0 = (k + 19) + 1 by omega, w_l0_end a0 a1 a2 a3 b0 b1 b2 b3 aH aT bH bT _ kk z.1 z.2 (by omega) hs ht, hz, show aT.size - (kk - 1) = 0 by omega, List.drop_zero]
  | succ d ih =>
    intro k kk z hk hd hz
    have hsw := seamR_swI (bytesOf aT) (bytesOf bH) kk hk (by rw [bytesOf_length]; omega)
    rw [bytesOf_length, ← hz] at hsw
    have h1 := w_l1 a0 a1 a2 a3 b0 b1 b2 b3 aH aT bH bT kk hk (by omega) hs ht z _ rfl bH.size (k + 20 + 20 * d + 9 - bH.size) 1 z (by omega) (by omega) (by rw [if_neg (by omega)])
    have h2 := ih (k + 18 - bH.size) (kk + 1) _ (by omega) (by omega) hsw.symm
    rw [show k + 20 + 20 * (d + 1) = (k + 20 + 20 * d + 9 - bH.size + 10 + bH.size) + 1 by omega, weld_seam.l0, if_pos (by omega)]
    rw [show (1 : Int) = ((1 : Nat) : Int) from rfl, h1, show k + 20 + 20 * d + 9 - bH.size + 9 = k + 18 - bH.size + 20 + 20 * d by omega]
    exact h2
theorem wSeam_eq (k : Nat) (hs : aT.size ≤ 3) (ht : bH.size ≤ 3) (hk : 80 ≤ k) : weld_seam.f k a0 a1 a2 a3 aH aT b0 b1 b2 b3 bH bT = some (0, (seamR (bytesOf aT) (bytesOf bH)).1, (seamR (bytesOf aT) (bytesOf bH)).2, seamE (bytesOf aT) (bytesOf bH)) := by
  unfold weld_seam.f
  have h := w_l0 a0 a1 a2 a3 b0 b1 b2 b3 aH aT bH bT hs ht aT.size (k - 20 - 20 * aT.size) 1 (0, 0) (by omega) (by omega) (by rw [Nat.sub_self, Nat.sub_zero, List.drop_of_length_le (by rw [bytesOf_length]; omega)]; rfl)
  rw [show k - 20 - 20 * aT.size + 20 + 20 * aT.size = k by omega] at h
  exact h
theorem r_l1_next (k kk j : Nat) (z1 z2 : Int) (h1 : 1 ≤ kk) (h2 : kk ≤ aT.size) (h3 : 1 ≤ j) (h4 : j ≤ bH.size) (hs : aT.size ≤ 3) (ht : bH.size ≤ 3) :
    galleyref05_seam.l1 (k + 10) kk j a0 a1 a2 a3 aH aT b0 b1 b2 b3 bH bT 0 z1 z2 0 =
      (if lg ((bytesOf aT).drop (aT.size - kk) ++ bytesOf bH) = kk + j then galleyref05_seam.l1 (k + 9) kk ((j + 1 : Nat) : Int) a0 a1 a2 a3 aH aT b0 b1 b2 b3 bH bT 0 ((kk + j : Nat) - 1) ((kk + j : Nat) - uL (kk + j)) 0
       else galleyref05_seam.l1 (k + 9) kk ((j + 1 : Nat) : Int) a0 a1 a2 a3 aH aT b0 b1 b2 b3 bH bT 0 z1 z2 0) := by
  have hB := bo_byt bH
  have hA := bo_byt aT
  have hl := cutS_len (bytesOf aT) (bytesOf bH) kk j (by rw [bytesOf_length]; exact h2) (by rw [bytesOf_length]; exact h4)
  have hne : cutS (bytesOf aT) (bytesOf bH) kk j ≠ [] := fun h => by rw [h] at hl; simp at hl; omega
  have hv := val_lg _ (cutS_byt hA hB kk j) hne
  have hc := cutS_lg (bytesOf aT) (bytesOf bH) kk j h1 (by rw [bytesOf_length]; exact h2) h3 (by rw [bytesOf_length]; exact h4)
  rw [bytesOf_length] at hc
  rw [hl, hc] at hv
  have e1 : wrap64 ((aT.size : Int) - (kk : Int)) = ((aT.size - kk : Nat) : Int) := by rw [w64 (by omega) (by omega)]; omega
  have e2 : wrap64 ((j : Int) + 1) = ((j + 1 : Nat) : Int) := by rw [w64 (by omega) (by omega)]; rfl
  have e3 : wrap64 ((kk : Int) + (j : Int)) = ((kk + j : Nat) : Int) := by rw [w64 (by omega) (by omega)]; omega
  have hcb := cutS_ba aT bH kk j h2
  have hS := cutS_byt hA hB kk j
  have hll : (cutS (bytesOf aT) (bytesOf bH) kk j).length ≤ 4294967296 := by rw [hl]; omega
  rw [galleyref05_seam.l1, if_pos (by omega), e1, if_pos (by omega), if_pos (by omega), if_pos (by omega)]
  rw [if_pos (by rw [ByteArray.size_extract, ByteArray.size_extract]; omega), if_pos (by rw [← bytesOf_length, hcb, hl]; omega), hcb, Option.bind_some]
  have hlg := long_eq (k + 6) _ hS (by omega) 0 (by omega)
  rw [Int.natCast_zero, List.drop_zero] at hlg
  rw [show k + 9 = k + 6 + 3 from rfl, hlg, Option.bind_some, e2, e3]
  by_cases hg : lg ((bytesOf aT).drop (aT.size - kk) ++ bytesOf bH) = kk + j
  · have hg' := hc.2 hg
    rw [if_pos hg, hg', if_pos rfl]
    have hof := of_eq (k + 2) _ hS hll 0 (by rw [hl]; omega)
    have hun := units_eq _ 0 (by rw [hl]; omega) hS (decide (lg ((cutS (bytesOf aT) (bytesOf bH) kk j).drop 0) ≠ 0))
    rw [Int.natCast_zero] at hof
    rw [show k + 6 + 3 = k + 2 + 7 by omega, hof, Option.bind_some]
    have hun2 : galleyref05_units.f (ru ((cutS (bytesOf aT) (bytesOf bH) kk j).drop 0)) ((wd ((cutS (bytesOf aT) (bytesOf bH) kk j).drop 0) : Nat) : Int) (decide (lg ((cutS (bytesOf aT) (bytesOf bH) kk j).drop 0) ≠ 0)) = some (uL (kk + j)) := by
      rw [hun, List.drop_zero, hg']; rfl
    have hur := uL_range (kk + j)
    rw [hun2, Option.bind_some, w64 (n := ((kk + j : Nat) : Int) - 1) (by omega) (by omega), w64 (n := ((kk + j : Nat) : Int) - uL (kk + j)) (by omega) (by omega)]
  · rw [if_neg hg, if_neg (fun c => hg (hc.1 (by omega)))]
theorem r_l1_end (k kk j : Nat) (z1 z2 : Int) (h1 : kk ≤ 3) (h : bH.size < j) : galleyref05_seam.l1 (k + 1) kk j a0 a1 a2 a3 aH aT b0 b1 b2 b3 bH bT 0 z1 z2 0 = galleyref05_seam.l0 k ((kk + 1 : Nat) : Int) a0 a1 a2 a3 aH aT b0 b1 b2 b3 bH bT 0 z1 z2 0 := by
  rw [galleyref05_seam.l1, if_neg (by omega), w64 (by omega) (by omega)]
  rfl
theorem r_l1 (kk : Nat) (h1 : 1 ≤ kk) (h2 : kk ≤ aT.size) (hs : aT.size ≤ 3) (ht : bH.size ≤ 3) (p : Int × Int) (L : Nat) (hL : lg ((bytesOf aT).drop (aT.size - kk) ++ bytesOf bH) = L) (d : Nat) :
    ∀ (k j : Nat) (z : Int × Int), 1 ≤ j → j + d = bH.size + 1 → z = (if kk < L ∧ L - kk < j then ((L : Int) - 1, (L : Int) - uL L) else p) →
      galleyref05_seam.l1 (k + 10 + d) kk j a0 a1 a2 a3 aH aT b0 b1 b2 b3 bH bT 0 z.1 z.2 0 = galleyref05_seam.l0 (k + 9) ((kk + 1 : Nat) : Int) a0 a1 a2 a3 aH aT b0 b1 b2 b3 bH bT 0 (swI kk L p).1 (swI kk L p).2 0 := by
  have hll : L ≤ kk + bH.size := by
    have := lg_len ((bytesOf aT).drop (aT.size - kk) ++ bytesOf bH)
    rw [hL, List.length_append, List.length_drop, bytesOf_length, bytesOf_length] at this
    omega
  induction d with
  | zero =>
    intro k j z hj hd hz
    rw [show k + 10 + 0 = (k + 9) + 1 from rfl, r_l1_end a0 a1 a2 a3 b0 b1 b2 b3 aH aT bH bT (k + 9) kk j z.1 z.2 (by omega) (by omega)]
    have : z = swI kk L p := by
      rw [hz]
      unfold swI
      by_cases h : kk < L
      · rw [if_pos ⟨h, by omega⟩, if_pos h]
      · rw [if_neg (fun c => h c.1), if_neg h]
    rw [this]
  | succ d ih =>
    intro k j z hj hd hz
    have hn := r_l1_next a0 a1 a2 a3 b0 b1 b2 b3 aH aT bH bT (k + d + 1) kk j z.1 z.2 h1 h2 hj (by omega) hs ht
    rw [show k + 10 + (d + 1) = k + d + 1 + 10 by omega, hn, hL]
    by_cases hg : L = kk + j
    · rw [if_pos hg, ← hg]
      have := ih k (j + 1) ((L : Int) - 1, (L : Int) - uL L) (by omega) (by omega) (by rw [if_pos ⟨by omega, by omega⟩])
      rw [show k + d + 1 + 9 = k + 10 + d by omega]
      exact this
    · rw [if_neg hg]
      have := ih k (j + 1) z (by omega) (by omega) (by
        rw [hz]
        by_cases h : kk < L ∧ L - kk < j
        · rw [if_pos h, if_pos ⟨h.1, by omega⟩]
        · rw [if_neg h, if_neg (fun c => h ⟨c.1, by omega⟩)])
      rw [show k + d + 1 + 9 = k + 10 + d by omega]
      exact this
theorem r_l0_end (k kk : Nat) (z1 z2 : Int) (h : aT.size < kk) (hs : aT.size ≤ 3) (ht : bH.size ≤ 3) : galleyref05_seam.l0 (k + 1) kk a0 a1 a2 a3 aH aT b0 b1 b2 b3 bH bT 0 z1 z2 0 = some (0, z1, z2, seamE (bytesOf aT) (bytesOf bH)) := by
  rw [galleyref05_seam.l0, if_neg (by omega)]
  unfold seamE
  rw [bytesOf_length]
  by_cases ha : (aT.size : Int) > 0
  · have e : wrap64 ((aT.size : Int) - 1) = ((aT.size - 1 : Nat) : Int) := by rw [w64 (by omega) (by omega)]; omega
    rw [if_pos ha]
    by_cases hb : (bH.size : Int) > 0
    · rw [if_pos hb, e, if_pos (by omega), if_pos (by omega), bt_bo aT _ (by simp; omega)]
      simp only [Int.toNat_natCast]
      by_cases h13 : (bytesOf aT).getD (aT.size - 1) (-1) = 13
      · rw [if_pos h13, if_pos (by omega), bt_bo bH _ (by simp; omega)]
        simp only [Int.toNat_zero]
        by_cases h10 : (bytesOf bH).getD 0 (-1) = 10
        · rw [if_pos h10, if_pos ⟨h13, h10⟩]
        · rw [if_neg h10, if_neg (fun c => h10 c.2)]
      · rw [if_neg h13, if_neg (fun c => h13 c.1)]
    · rw [if_neg hb, if_neg (fun c => by rw [getD_m1 _ 0 (by rw [bytesOf_length]; omega)] at c; omega)]
  · rw [if_neg ha, if_neg (fun c => by rw [getD_m1 _ _ (by rw [bytesOf_length]; omega)] at c; omega)]
theorem r_l0 (hs : aT.size ≤ 3) (ht : bH.size ≤ 3) (d : Nat) : ∀ (k kk : Nat) (z : Int × Int), 1 ≤ kk → kk + d = aT.size + 1 → z = seamR ((bytesOf aT).drop (aT.size - (kk - 1))) (bytesOf bH) →
    galleyref05_seam.l0 (k + 20 + 20 * d) kk a0 a1 a2 a3 aH aT b0 b1 b2 b3 bH bT 0 z.1 z.2 0 = some (0, (seamR (bytesOf aT) (bytesOf bH)).1, (seamR (bytesOf aT) (bytesOf bH)).2, seamE (bytesOf aT) (bytesOf bH)) := by
  induction d with
  | zero =>
    intro k kk z hk hd hz
    rw [show k + 20 + 20 * 0 = (k + 19) + 1 by omega, r_l0_end a0 a1 a2 a3 b0 b1 b2 b3 aH aT bH bT _ kk z.1 z.2 (by omega) hs ht, hz, show aT.size - (kk - 1) = 0 by omega, List.drop_zero]
  | succ d ih =>
    intro k kk z hk hd hz
    have hsw := seamR_swI (bytesOf aT) (bytesOf bH) kk hk (by rw [bytesOf_length]; omega)
    rw [bytesOf_length, ← hz] at hsw
    have h1 := r_l1 a0 a1 a2 a3 b0 b1 b2 b3 aH aT bH bT kk hk (by omega) hs ht z _ rfl bH.size (k + 20 + 20 * d + 9 - bH.size) 1 z (by omega) (by omega) (by rw [if_neg (by omega)])
    have h2 := ih (k + 18 - bH.size) (kk + 1) _ (by omega) (by omega) hsw.symm
    rw [show k + 20 + 20 * (d + 1) = (k + 20 + 20 * d + 9 - bH.size + 10 + bH.size) + 1 by omega, galleyref05_seam.l0, if_pos (by omega)]
    rw [show (1 : Int) = ((1 : Nat) : Int) from rfl, h1, show k + 20 + 20 * d + 9 - bH.size + 9 = k + 18 - bH.size + 20 + 20 * d by omega]
    exact h2
theorem rSeam_eq (k : Nat) (hs : aT.size ≤ 3) (ht : bH.size ≤ 3) (hk : 80 ≤ k) : galleyref05_seam.f k a0 a1 a2 a3 aH aT b0 b1 b2 b3 bH bT = some (0, (seamR (bytesOf aT) (bytesOf bH)).1, (seamR (bytesOf aT) (bytesOf bH)).2, seamE (bytesOf aT) (bytesOf bH)) := by
  unfold galleyref05_seam.f
  have h := r_l0 a0 a1 a2 a3 b0 b1 b2 b3 aH aT bH bT hs ht aT.size (k - 20 - 20 * aT.size) 1 (0, 0) (by omega) (by omega) (by rw [Nat.sub_self, Nat.sub_zero, List.drop_of_length_le (by rw [bytesOf_length]; omega)]; rfl)
  rw [show k - 20 - 20 * aT.size + 20 + 20 * aT.size = k by omega] at h
  exact h
end
end Go.Proofs.YtaojbcplmdjfnaaDoor.PuSm

namespace Go.Proofs.YtaojbcplmdjfnaaDoor.PuJn
open Go.RowKit Go.Proofs.YtaojbcplmdjfnaaDoor.Pr Go.Proofs.YtaojbcplmdjfnaaDoor.Math Go.Proofs.YtaojbcplmdjfnaaDoor.Ev Go.Proofs.YtaojbcplmdjfnaaDoor.PuSz Go.Proofs.YtaojbcplmdjfnaaDoor.PuMs Go.Proofs.YtaojbcplmdjfnaaDoor.PuSm Go.Proofs.YtaojbcplmdjfnaaDoorW.PrintWords Go.Proofs.YtaojbcplmdjfnaaDoorW.PrintLast Go.Proofs.YtaojbcplmdjfnaaDoorW.PrintMore
set_option linter.unusedVariables false
set_option linter.unusedSimpArgs false
def R64 (x : Int) : Prop := -9223372036854775808 ≤ x ∧ x ≤ 9223372036854775807
def vM (a : Ms) : Bool := vldB a.1 a.2.1 a.2.2.1 a.2.2.2.1 (bytesOf a.2.2.2.2.1) (bytesOf a.2.2.2.2.2)
theorem vld_range {n r u e : Int} {H T : List Int} (h : vldB n r u e H T = true) : (0 ≤ n ∧ n ≤ 268435456) ∧ (0 ≤ r ∧ r ≤ n) ∧ (0 ≤ u ∧ u ≤ 2 * n) ∧ (0 ≤ e ∧ e ≤ n) ∧ (H.length : Int) = min 3 n ∧ (T.length : Int) = min 3 n := by
  by_cases hc : n < 0 ∨ n > 268435456 ∨ (H.length : Int) ≠ min 3 n ∨ (T.length : Int) ≠ min 3 n
  · unfold vldB at h; rw [if_pos hc] at h; cases h
  · have hn : 0 ≤ n ∧ n ≤ 268435456 := by omega
    have hh : (H.length : Int) = min 3 n := by omega
    have ht : (T.length : Int) = min 3 n := by omega
    rw [vldB_in n r u e H T hn hh ht] at h
    refine ⟨hn, ?_⟩
    by_cases h6 : n ≤ 6
    · rw [if_pos h6, Bool.and_eq_true, decide_eq_true_eq, decide_eq_true_eq] at h
      obtain ⟨h1, h2, h3, h4⟩ := h
      have hs := ends_six n.toNat (by omega) H T (by omega) (by omega) h1
      generalize H ++ T.drop (H.length + T.length - n.toNat) = B at *
      have q1 := rn_bounds' B
      have q2 := en_bounds' B 0
      omega
    · rw [if_neg h6, decide_eq_true_eq] at h
      omega
def jnM (a b : Ms) : Ms :=
  (a.1 + b.1, a.2.1 + b.2.1 - (seamR (bytesOf a.2.2.2.2.2) (bytesOf b.2.2.2.2.1)).1, a.2.2.1 + b.2.2.1 - (seamR (bytesOf a.2.2.2.2.2) (bytesOf b.2.2.2.2.1)).2, a.2.2.2.1 + b.2.2.2.1 - seamE (bytesOf a.2.2.2.2.2) (bytesOf b.2.2.2.2.1),
    if a.1 < 3 then strOfNums ((bytesOf a.2.2.2.2.1 ++ bytesOf b.2.2.2.2.1).take 3) else a.2.2.2.2.1,
    if b.1 < 3 then strOfNums ((bytesOf a.2.2.2.2.2 ++ bytesOf b.2.2.2.2.2).drop (a.2.2.2.2.2.size + b.2.2.2.2.2.size - 3)) else b.2.2.2.2.2)
def erM (a b : Ms) : Int := if vM a = true ∧ vM b = true then (if a.1 + b.1 > 268435456 then 5 else if vM (jnM a b) = true then 0 else 50) else 50
def joM (a b : Ms) : Ms := if erM a b = 0 then jnM a b else m0
def smM (a b : Ms) : Int × Int × Int := if erM a b = 0 then ((seamR (bytesOf a.2.2.2.2.2) (bytesOf b.2.2.2.2.1)).1, (seamR (bytesOf a.2.2.2.2.2) (bytesOf b.2.2.2.2.1)).2, seamE (bytesOf a.2.2.2.2.2) (bytesOf b.2.2.2.2.1)) else (0, 0, 0)
theorem er_bad {a b : Ms} (h : ¬ (vM a = true ∧ vM b = true)) : erM a b = 50 := by unfold erM; rw [if_neg h]
theorem er_long {a b : Ms} (h : vM a = true ∧ vM b = true) (h' : a.1 + b.1 > 268435456) : erM a b = 5 := by unfold erM; rw [if_pos h, if_pos h']
theorem er_fine {a b : Ms} (h : vM a = true ∧ vM b = true) (h' : ¬ a.1 + b.1 > 268435456) (h2 : vM (jnM a b) = true) : erM a b = 0 := by unfold erM; rw [if_pos h, if_neg h', if_pos h2]
theorem er_not {a b : Ms} (h : vM a = true ∧ vM b = true) (h' : ¬ a.1 + b.1 > 268435456) (h2 : vM (jnM a b) = false) : erM a b = 50 := by unfold erM; rw [if_pos h, if_neg h', if_neg (by rw [h2]; decide)]
section
variable (a0 a1 a2 a3 b0 b1 b2 b3 : Int) (aH aT bH bT : ByteArray)
theorem sum_eq (p0 p1 p2 p3 q0 q1 q2 q3 t : Int) (ht : t = 1 ∨ t = -1) (h0 : 0 ≤ p0 ∧ p0 ≤ 4294967296) (h1 : 0 ≤ p1 ∧ p1 ≤ 4294967296) (h2 : 0 ≤ p2 ∧ p2 ≤ 4294967296) (h3 : 0 ≤ p3 ∧ p3 ≤ 4294967296)
    (g0 : 0 ≤ q0 ∧ q0 ≤ 4294967296) (g1 : 0 ≤ q1 ∧ q1 ≤ 4294967296) (g2 : 0 ≤ q2 ∧ q2 ≤ 4294967296) (g3 : 0 ≤ q3 ∧ q3 ≤ 4294967296) : weld_sum.f p0 p1 p2 p3 q0 q1 q2 q3 t = some (p0 + t * q0, p1 + t * q1, p2 + t * q2, p3 + t * q3) := by
  unfold weld_sum.f
  rcases ht with rfl | rfl
  · simp only [Int.one_mul]
    rw [w64 (n := q0) (by omega) (by omega), w64 (n := q1) (by omega) (by omega), w64 (n := q2) (by omega) (by omega), w64 (n := q3) (by omega) (by omega), w64 (by omega) (by omega), w64 (by omega) (by omega), w64 (by omega) (by omega), w64 (by omega) (by omega)]
  · simp only [Int.neg_mul, Int.one_mul]
    rw [w64 (n := -q0) (by omega) (by omega), w64 (n := -q1) (by omega) (by omega), w64 (n := -q2) (by omega) (by omega), w64 (n := -q3) (by omega) (by omega), w64 (by omega) (by omega), w64 (by omega) (by omega), w64 (by omega) (by omega), w64 (by omega) (by omega)]
def jT (b0 : Int) (aT bT : ByteArray) : ByteArray := if b0 < 3 then strOfNums ((bytesOf aT ++ bytesOf bT).drop (aT.size + bT.size - 3)) else bT
def jH (a0 : Int) (aH bH : ByteArray) : ByteArray := if a0 < 3 then strOfNums ((bytesOf aH ++ bytesOf bH).take 3) else aH
theorem j1_eq (k : Nat) (r0 r1 r2 r3 s0 s1 s2 s3 : Int) (h : ByteArray) (hr1 : R64 r1) (hr2 : R64 r2) (ha : aT.size ≤ 3) (hb : bT.size ≤ 3) :
    weld_both.j1 (k + 2) a0 a1 a2 a3 aH aT b0 b1 b2 b3 bH bT s0 s1 s2 s3 r0 r1 r2 r3 h bT = some (if vM (r0, r1, r2, r3, h, jT b0 aT bT) = true then (r0, r1, r2, r3, h, jT b0 aT bT, s0, s1, s2, s3, 0) else (0, 0, 0, 0, ⟨#[]⟩, ⟨#[]⟩, 0, 0, 0, 0, 50)) := by
  rw [weld_both.j1]
  unfold jT
  by_cases h3 : b0 < 3
  · rw [if_pos h3, if_pos (by omega), tail_eq _ (by rw [← bytesOf_length, bo_append, List.length_append, bytesOf_length, bytesOf_length]; omega), Option.bind_some, if_pos h3]
    have hsz : (aT ++ bT).size = aT.size + bT.size := by rw [← bytesOf_length, bo_append, List.length_append, bytesOf_length, bytesOf_length]
    rw [bo_append, hsz, weldValid_eq k _ _ _ _ _ _ hr1 hr2, Option.bind_some]
    unfold vM
    dsimp only
    split <;> rfl
  · rw [if_neg h3, if_neg h3, weldValid_eq k _ _ _ _ _ _ hr1 hr2, Option.bind_some]
    unfold vM
    dsimp only
    split <;> rfl
set_option maxHeartbeats 2000000 in
theorem both_eq (k : Nat) (hk : 120 ≤ k) (ha1 : R64 a1) (ha2 : R64 a2) (hb1 : R64 b1) (hb2 : R64 b2) :
    weld_both.f k a0 a1 a2 a3 aH aT b0 b1 b2 b3 bH bT = some ((joM (a0, a1, a2, a3, aH, aT) (b0, b1, b2, b3, bH, bT)).1, (joM (a0, a1, a2, a3, aH, aT) (b0, b1, b2, b3, bH, bT)).2.1, (joM (a0, a1, a2, a3, aH, aT) (b0, b1, b2, b3, bH, bT)).2.2.1, (joM (a0, a1, a2, a3, aH, aT) (b0, b1, b2, b3, bH, bT)).2.2.2.1, (joM (a0, a1, a2, a3, aH, aT) (b0, b1, b2, b3, bH, bT)).2.2.2.2.1, (joM (a0, a1, a2, a3, aH, aT) (b0, b1, b2, b3, bH, bT)).2.2.2.2.2,
      0, (smM (a0, a1, a2, a3, aH, aT) (b0, b1, b2, b3, bH, bT)).1, (smM (a0, a1, a2, a3, aH, aT) (b0, b1, b2, b3, bH, bT)).2.1, (smM (a0, a1, a2, a3, aH, aT) (b0, b1, b2, b3, bH, bT)).2.2, erM (a0, a1, a2, a3, aH, aT) (b0, b1, b2, b3, bH, bT)) := by
  obtain ⟨k, rfl⟩ : ∃ m, k = m + 120 := ⟨k - 120, by omega⟩
  generalize hA : ((a0, a1, a2, a3, aH, aT) : Ms) = A
  generalize hB : ((b0, b1, b2, b3, bH, bT) : Ms) = B
  have vA : vldB a0 a1 a2 a3 (bytesOf aH) (bytesOf aT) = vM A := by rw [← hA]; rfl
  have vB : vldB b0 b1 b2 b3 (bytesOf bH) (bytesOf bT) = vM B := by rw [← hB]; rfl
  have hbad : ∀ x : Bool, x = true → ¬ (vM A = true ∧ vM B = true) → weld_both.j0 (k + 120) x a0 a1 a2 a3 aH aT b0 b1 b2 b3 bH bT = some ((joM A B).1, (joM A B).2.1, (joM A B).2.2.1, (joM A B).2.2.2.1, (joM A B).2.2.2.2.1, (joM A B).2.2.2.2.2, 0, (smM A B).1, (smM A B).2.1, (smM A B).2.2, erM A B) := by
    intro x hx hv
    have he := er_bad hv
    have hj : joM A B = m0 := by unfold joM; rw [he]; rfl
    have hs : smM A B = (0, 0, 0) := by unfold smM; rw [he]; rfl
    rw [hj, hs, he, weld_both.j0, if_pos hx]
    rfl
  unfold weld_both.f
  rw [weldValid_eq (k + 119) a0 a1 a2 a3 aH aT ha1 ha2, vA, Option.bind_some]
  by_cases hva : vM A = true
  · rw [if_pos hva, weldValid_eq (k + 119) b0 b1 b2 b3 bH bT hb1 hb2, vB, Option.bind_some]
    by_cases hvb : vM B = true
    · have rA := vld_range (vA.trans hva)
      have rB := vld_range (vB.trans hvb)
      rw [bytesOf_length, bytesOf_length] at rA rB
      have hAB : A.1 = a0 ∧ B.1 = b0 := by rw [← hA, ← hB]; exact ⟨rfl, rfl⟩
      rw [weld_both.j0, hvb, if_neg (by decide), w64 (n := a0 + b0) (by omega) (by omega)]
      by_cases hlong : a0 + b0 > 268435456
      · have he := er_long ⟨hva, hvb⟩ (show A.1 + B.1 > 268435456 by rw [hAB.1, hAB.2]; exact hlong)
        have hj : joM A B = m0 := by unfold joM; rw [he]; rfl
        have hs : smM A B = (0, 0, 0) := by unfold smM; rw [he]; rfl
        rw [if_pos hlong, hj, hs, he]
        rfl
      · have hnl : ¬ A.1 + B.1 > 268435456 := by rw [hAB.1, hAB.2]; exact hlong
        have sr := seamR_range (bytesOf aT) (bytesOf bH)
        have se := seamE_range (bytesOf aT) (bytesOf bH)
        rw [if_neg hlong, wSeam_eq a0 a1 a2 a3 b0 b1 b2 b3 aH aT bH bT (k + 119) (by omega) (by omega) (by omega), Option.bind_some]
        dsimp only
        rw [sum_eq a0 a1 a2 a3 b0 b1 b2 b3 1 (.inl rfl) (by omega) (by omega) (by omega) (by omega) (by omega) (by omega) (by omega) (by omega), Option.bind_some]
        dsimp only
        have e0 : weld_sum.f (a0 + 1 * b0) (a1 + 1 * b1) (a2 + 1 * b2) (a3 + 1 * b3) 0 (seamR (bytesOf aT) (bytesOf bH)).1 (seamR (bytesOf aT) (bytesOf bH)).2 (seamE (bytesOf aT) (bytesOf bH)) (-1) = some (a0 + b0, a1 + b1 - (seamR (bytesOf aT) (bytesOf bH)).1, a2 + b2 - (seamR (bytesOf aT) (bytesOf bH)).2, a3 + b3 - seamE (bytesOf aT) (bytesOf bH)) := by
          rw [sum_eq _ _ _ _ _ _ _ _ (-1) (.inr rfl) (by omega) (by omega) (by omega) (by omega) (by omega) (by omega) (by omega) (by omega)]
          congr 1
          simp only [Int.one_mul, Int.neg_mul, Int.neg_zero, Int.add_zero, Int.sub_eq_add_neg]
        rw [e0, Option.bind_some]
        dsimp only
        have hj := j1_eq a0 a1 a2 a3 b0 b1 b2 b3 aH aT bH bT (k + 117) (a0 + b0) (a1 + b1 - (seamR (bytesOf aT) (bytesOf bH)).1) (a2 + b2 - (seamR (bytesOf aT) (bytesOf bH)).2) (a3 + b3 - seamE (bytesOf aT) (bytesOf bH)) 0 (seamR (bytesOf aT) (bytesOf bH)).1 (seamR (bytesOf aT) (bytesOf bH)).2 (seamE (bytesOf aT) (bytesOf bH)) (jH a0 aH bH) ⟨by omega, by omega⟩ ⟨by omega, by omega⟩ (by omega) (by omega)
        have hJ : jnM A B = (a0 + b0, a1 + b1 - (seamR (bytesOf aT) (bytesOf bH)).1, a2 + b2 - (seamR (bytesOf aT) (bytesOf bH)).2, a3 + b3 - seamE (bytesOf aT) (bytesOf bH), jH a0 aH bH, jT b0 aT bT) := by rw [← hA, ← hB]; rfl
        rw [← hJ] at hj
        have hgo : weld_both.j1 (k + 119) a0 a1 a2 a3 aH aT b0 b1 b2 b3 bH bT 0 (seamR (bytesOf aT) (bytesOf bH)).1 (seamR (bytesOf aT) (bytesOf bH)).2 (seamE (bytesOf aT) (bytesOf bH)) (a0 + b0) (a1 + b1 - (seamR (bytesOf aT) (bytesOf bH)).1) (a2 + b2 - (seamR (bytesOf aT) (bytesOf bH)).2) (a3 + b3 - seamE (bytesOf aT) (bytesOf bH)) (jH a0 aH bH) bT =
            some ((joM A B).1, (joM A B).2.1, (joM A B).2.2.1, (joM A B).2.2.2.1, (joM A B).2.2.2.2.1, (joM A B).2.2.2.2.2, 0, (smM A B).1, (smM A B).2.1, (smM A B).2.2, erM A B) := by
          rw [hj]
          by_cases hvj : vM (jnM A B) = true
          · have he := er_fine ⟨hva, hvb⟩ hnl hvj
            have hjo : joM A B = jnM A B := by unfold joM; rw [if_pos he]
            have hs : smM A B = ((seamR (bytesOf aT) (bytesOf bH)).1, (seamR (bytesOf aT) (bytesOf bH)).2, seamE (bytesOf aT) (bytesOf bH)) := by unfold smM; rw [if_pos he, ← hA, ← hB]
            rw [if_pos hvj, hjo, hs, he, hJ]
          · have he := er_not ⟨hva, hvb⟩ hnl (by simpa using hvj)
            have hjo : joM A B = m0 := by unfold joM; rw [he]; rfl
            have hs : smM A B = (0, 0, 0) := by unfold smM; rw [he]; rfl
            rw [if_neg hvj, hjo, hs, he]
            rfl
        rw [← hgo]
        by_cases h3 : a0 < 3
        · rw [if_pos h3, if_pos (by omega), head_eq', Option.bind_some, bo_append]
          unfold jH
          rw [if_pos h3]
        · rw [if_neg h3]
          unfold jH
          rw [if_neg h3]
    · rw [Bool.not_eq_true] at hvb
      rw [hvb]
      exact hbad _ rfl (fun c => by rw [hvb] at c; cases c.2)
  · rw [if_neg hva]
    exact hbad _ rfl (fun c => hva c.1)
theorem wJoin_eq (k : Nat) (hk : 120 ≤ k) (ha1 : R64 a1) (ha2 : R64 a2) (hb1 : R64 b1) (hb2 : R64 b2) :
    weld_Join.f k a0 a1 a2 a3 aH aT b0 b1 b2 b3 bH bT = some ((joM (a0, a1, a2, a3, aH, aT) (b0, b1, b2, b3, bH, bT)).1, (joM (a0, a1, a2, a3, aH, aT) (b0, b1, b2, b3, bH, bT)).2.1, (joM (a0, a1, a2, a3, aH, aT) (b0, b1, b2, b3, bH, bT)).2.2.1, (joM (a0, a1, a2, a3, aH, aT) (b0, b1, b2, b3, bH, bT)).2.2.2.1, (joM (a0, a1, a2, a3, aH, aT) (b0, b1, b2, b3, bH, bT)).2.2.2.2.1, (joM (a0, a1, a2, a3, aH, aT) (b0, b1, b2, b3, bH, bT)).2.2.2.2.2, erM (a0, a1, a2, a3, aH, aT) (b0, b1, b2, b3, bH, bT)) := by
  unfold weld_Join.f
  rw [both_eq a0 a1 a2 a3 b0 b1 b2 b3 aH aT bH bT k hk ha1 ha2 hb1 hb2]
  rfl
theorem rj1_eq (k : Nat) (s0 s1 s2 s3 y0 y1 y2 y3 : Int) (h : ByteArray) (h0 : 0 ≤ a0 ∧ a0 ≤ 4294967296) (h1 : 0 ≤ a1 ∧ a1 ≤ 4294967296) (h2 : 0 ≤ a2 ∧ a2 ≤ 4294967296) (h3 : 0 ≤ a3 ∧ a3 ≤ 4294967296)
    (g0 : 0 ≤ b0 ∧ b0 ≤ 4294967296) (g1 : 0 ≤ b1 ∧ b1 ≤ 4294967296) (g2 : 0 ≤ b2 ∧ b2 ≤ 4294967296) (g3 : 0 ≤ b3 ∧ b3 ≤ 4294967296) (q1 : 0 ≤ s1 ∧ s1 ≤ 3) (q2 : 0 ≤ s2 ∧ s2 ≤ 3) (q3 : 0 ≤ s3 ∧ s3 ≤ 3) (ha : aT.size ≤ 3) (hb : bT.size ≤ 3) (hbt : (bT.size : Int) = min 3 b0) :
    galleyref05_Join.j1 (k + 26) a0 a1 a2 a3 aH aT b0 b1 b2 b3 bH bT s0 s1 s2 s3 y0 y1 y2 y3 h bT = some (if vM (a0 + b0, a1 + b1 - s1, a2 + b2 - s2, a3 + b3 - s3, h, jT b0 aT bT) = true then (a0 + b0, a1 + b1 - s1, a2 + b2 - s2, a3 + b3 - s3, h, jT b0 aT bT, 0) else (0, 0, 0, 0, ⟨#[]⟩, ⟨#[]⟩, 50)) := by
  rw [galleyref05_Join.j1, w64 (n := a0 + b0) (by omega) (by omega), w64 (n := a1 + b1) (by omega) (by omega), w64 (n := a2 + b2) (by omega) (by omega), w64 (n := a3 + b3) (by omega) (by omega), w64 (n := a1 + b1 - s1) (by omega) (by omega), w64 (n := a2 + b2 - s2) (by omega) (by omega), w64 (n := a3 + b3 - s3) (by omega) (by omega)]
  unfold jT
  by_cases hc : b0 < 3
  · have hsz : (aT ++ bT).size = aT.size + bT.size := by rw [← bytesOf_length, bo_append, List.length_append, bytesOf_length, bytesOf_length]
    rw [if_pos (by omega), if_pos (by omega), rtail_eq _ (by omega), Option.bind_some, if_pos hc]
    rw [bo_append, hsz, refValid_eq k _ _ _ _ _ _ ⟨by omega, by omega⟩ ⟨by omega, by omega⟩, Option.bind_some]
    unfold vM
    dsimp only
    split <;> rfl
  · rw [if_neg (by omega), if_neg hc, refValid_eq k _ _ _ _ _ _ ⟨by omega, by omega⟩ ⟨by omega, by omega⟩, Option.bind_some]
    unfold vM
    dsimp only
    split <;> rfl
set_option maxHeartbeats 2000000 in
theorem rJoin_eq (k : Nat) (hk : 150 ≤ k) (ha1 : R64 a1) (ha2 : R64 a2) (hb1 : R64 b1) (hb2 : R64 b2) :
    galleyref05_Join.f k a0 a1 a2 a3 aH aT b0 b1 b2 b3 bH bT = some ((joM (a0, a1, a2, a3, aH, aT) (b0, b1, b2, b3, bH, bT)).1, (joM (a0, a1, a2, a3, aH, aT) (b0, b1, b2, b3, bH, bT)).2.1, (joM (a0, a1, a2, a3, aH, aT) (b0, b1, b2, b3, bH, bT)).2.2.1, (joM (a0, a1, a2, a3, aH, aT) (b0, b1, b2, b3, bH, bT)).2.2.2.1, (joM (a0, a1, a2, a3, aH, aT) (b0, b1, b2, b3, bH, bT)).2.2.2.2.1, (joM (a0, a1, a2, a3, aH, aT) (b0, b1, b2, b3, bH, bT)).2.2.2.2.2, erM (a0, a1, a2, a3, aH, aT) (b0, b1, b2, b3, bH, bT)) := by
  obtain ⟨k, rfl⟩ : ∃ m, k = m + 150 := ⟨k - 150, by omega⟩
  generalize hA : ((a0, a1, a2, a3, aH, aT) : Ms) = A
  generalize hB : ((b0, b1, b2, b3, bH, bT) : Ms) = B
  have vA : vldB a0 a1 a2 a3 (bytesOf aH) (bytesOf aT) = vM A := by rw [← hA]; rfl
  have vB : vldB b0 b1 b2 b3 (bytesOf bH) (bytesOf bT) = vM B := by rw [← hB]; rfl
  have hbad : ∀ x : Bool, x = true → ¬ (vM A = true ∧ vM B = true) → galleyref05_Join.j0 (k + 150) x a0 a1 a2 a3 aH aT b0 b1 b2 b3 bH bT = some ((joM A B).1, (joM A B).2.1, (joM A B).2.2.1, (joM A B).2.2.2.1, (joM A B).2.2.2.2.1, (joM A B).2.2.2.2.2, erM A B) := by
    intro x hx hv
    have he := er_bad hv
    have hj : joM A B = m0 := by unfold joM; rw [he]; rfl
    rw [hj, he, galleyref05_Join.j0, if_pos hx]
    rfl
  unfold galleyref05_Join.f
  rw [refValid_eq (k + 125) a0 a1 a2 a3 aH aT ha1 ha2, vA, Option.bind_some]
  by_cases hva : vM A = true
  · rw [if_pos hva, refValid_eq (k + 125) b0 b1 b2 b3 bH bT hb1 hb2, vB, Option.bind_some]
    by_cases hvb : vM B = true
    · have rA := vld_range (vA.trans hva)
      have rB := vld_range (vB.trans hvb)
      rw [bytesOf_length, bytesOf_length] at rA rB
      have hAB : A.1 = a0 ∧ B.1 = b0 := by rw [← hA, ← hB]; exact ⟨rfl, rfl⟩
      rw [galleyref05_Join.j0, hvb, if_neg (by decide), w64 (n := a0 + b0) (by omega) (by omega)]
      by_cases hlong : a0 + b0 > 268435456
      · have he := er_long ⟨hva, hvb⟩ (show A.1 + B.1 > 268435456 by rw [hAB.1, hAB.2]; exact hlong)
        have hj : joM A B = m0 := by unfold joM; rw [he]; rfl
        rw [if_pos hlong, hj, he]
        rfl
      · have hnl : ¬ A.1 + B.1 > 268435456 := by rw [hAB.1, hAB.2]; exact hlong
        have sr := seamR_range (bytesOf aT) (bytesOf bH)
        have se := seamE_range (bytesOf aT) (bytesOf bH)
        rw [if_neg hlong, rSeam_eq a0 a1 a2 a3 b0 b1 b2 b3 aH aT bH bT (k + 149) (by omega) (by omega) (by omega), Option.bind_some]
        dsimp only
        have hj := rj1_eq a0 a1 a2 a3 b0 b1 b2 b3 aH aT bH bT (k + 123) 0 (seamR (bytesOf aT) (bytesOf bH)).1 (seamR (bytesOf aT) (bytesOf bH)).2 (seamE (bytesOf aT) (bytesOf bH)) 0 0 0 0 (jH a0 aH bH) (by omega) (by omega) (by omega) (by omega) (by omega) (by omega) (by omega) (by omega) (by omega) (by omega) (by omega) (by omega) (by omega) (by omega)
        have hJ : jnM A B = (a0 + b0, a1 + b1 - (seamR (bytesOf aT) (bytesOf bH)).1, a2 + b2 - (seamR (bytesOf aT) (bytesOf bH)).2, a3 + b3 - seamE (bytesOf aT) (bytesOf bH), jH a0 aH bH, jT b0 aT bT) := by rw [← hA, ← hB]; rfl
        rw [← hJ] at hj
        have hgo : galleyref05_Join.j1 (k + 149) a0 a1 a2 a3 aH aT b0 b1 b2 b3 bH bT 0 (seamR (bytesOf aT) (bytesOf bH)).1 (seamR (bytesOf aT) (bytesOf bH)).2 (seamE (bytesOf aT) (bytesOf bH)) 0 0 0 0 (jH a0 aH bH) bT =
            some ((joM A B).1, (joM A B).2.1, (joM A B).2.2.1, (joM A B).2.2.2.1, (joM A B).2.2.2.2.1, (joM A B).2.2.2.2.2, erM A B) := by
          rw [hj]
          by_cases hvj : vM (jnM A B) = true
          · have he := er_fine ⟨hva, hvb⟩ hnl hvj
            have hjo : joM A B = jnM A B := by unfold joM; rw [if_pos he]
            rw [if_pos hvj, hjo, he, hJ]
          · have he := er_not ⟨hva, hvb⟩ hnl (by simpa using hvj)
            have hjo : joM A B = m0 := by unfold joM; rw [he]; rfl
            rw [if_neg hvj, hjo, he]
            rfl
        rw [← hgo]
        by_cases h3 : a0 < 3
        · rw [if_pos (by omega), if_pos (by omega), rhead_eq, Option.bind_some, bo_append]
          unfold jH
          rw [if_pos h3]
        · rw [if_neg (by omega)]
          unfold jH
          rw [if_neg h3]
    · rw [Bool.not_eq_true] at hvb
      rw [hvb]
      exact hbad _ rfl (fun c => by rw [hvb] at c; cases c.2)
  · rw [if_neg hva]
    exact hbad _ rfl (fun c => hva c.1)
end
end Go.Proofs.YtaojbcplmdjfnaaDoor.PuJn

namespace Go.Proofs.YtaojbcplmdjfnaaDoor.Pr
open Go.RowKit Go.Proofs.YtaojbcplmdjfnaaDoorW.PrintWords Go.Proofs.YtaojbcplmdjfnaaDoorW.PrintLast Go.Proofs.YtaojbcplmdjfnaaDoorW.PrintMore
attribute [local go_sem] max2_int min2_int max_two min_two max_three min_three max_four min_four   -- for this text's walks alone
set_option linter.unusedVariables false
set_option linter.unusedSimpArgs false
def weld_Sum.l0 : Nat → List (S26) → Int → Int → Int → Int → Int → Int → ByteArray → ByteArray → Option (Int × Int × Int × Int × ByteArray × ByteArray × Int)
 | 0, _, _, _, _, _, _, _, _, _ => none
 | k + 1, x9, x10, x11, x519000, x519001, x519002, x519003, x519004, x519005 => if x11 < x10 then (if 0 ≤ x11 then (if x11 < (x9.length : Int) then ((weld_Join.f k x519000 x519001 x519002 x519003 x519004 x519005 ((rd_T26 x9 x11).f0.f0) ((rd_T26 x9 x11).f0.f1) ((rd_T26 x9 x11).f0.f2) ((rd_T26 x9 x11).f0.f3) ((rd_T26 x9 x11).f1) ((rd_T26 x9 x11).f2)).bind fun bt521 => (if bt521.2.2.2.2.2.2 = 0 then (weld_Sum.l0 k x9 x10 (wrap64 (x11 + 1)) bt521.1 bt521.2.1 bt521.2.2.1 bt521.2.2.2.1 bt521.2.2.2.2.1 bt521.2.2.2.2.2.1) else (some (0, 0, 0, 0, (⟨#[]⟩ : ByteArray), (⟨#[]⟩ : ByteArray), bt521.2.2.2.2.2.2)))) else (none)) else (none)) else (some (x519000, x519001, x519002, x519003, x519004, x519005, 0))
def weld_Sum.f (k : Nat) (l0 : List (S26)) : Option (Int × Int × Int × Int × ByteArray × ByteArray × Int) := weld_Sum.l0 k l0 (l0.length : Int) 0 0 0 0 0 (⟨#[]⟩ : ByteArray) (⟨#[]⟩ : ByteArray)
set_option maxHeartbeats 8000000 in
set_option maxRecDepth 100000 in
theorem weld_Sum.calls (k : Nat) (A0 : Option Addr) (c0 : Nat) (l0 : List (S26)) (r1 : Int) (r2 : Int) (r3 : Int) (r4 : Int) (r5 : ByteArray) (r6 : ByteArray) (r7 : Int) (w : World) (hG : Glob.Globs w) (hr0 : Kd.C k26 w A0 l0.length l0) (hc0 : l0.length ≤ c0) (h : weld_Sum.f k l0 = some (r1, r2, r3, r4, r5, r6, r7)) :
  Calls Tryd.prog 21 #[.slice A0 l0.length c0] w fun e w' => e = .returned (.tuple #[.agg #[.int .i64 r1, .int .i64 r2, .int .i64 r3, .int .i64 r4, .string r5, .string r6], .int .i64 r7]) ∧ Below w.heap.size w w' := by
 have hu26 := Tryd.underlying26
 have HG := Aside0.mk hG; clear hG; have HR0 := Aside0.mk hr0; have HC0 := Aside0.mk hc0; clear hr0 hc0
 have HB := Aside0.mk (Below.refl w.heap.size w)
 have H : (weld_Sum.l0 k l0 (l0.length : Int) 0 0 0 0 0 (⟨#[]⟩ : ByteArray) (⟨#[]⟩ : ByteArray)) = some (r1, r2, r3, r4, r5, r6, r7) := h
 clear h; have H' := Aside0.mk H; clear H
 go_enter Tryd.func21, Tryd.ntmps21
 go_wp2_with (first | ((with_reducible refine gate_dst (N := 2) rfl ?_); refine box_event ?hg (N := 2) ?hd (cs := #[.int .i64 0, .int .i64 0, .int .i64 0, .int .i64 0, .string (⟨#[]⟩ : ByteArray), .string (⟨#[]⟩ : ByteArray)]) (t := 26) ?hr ?_; (case hd => rfl); (case hg => rfl); (case hr => first | (go_simp; done) | (go_simp; rfl)); intro gb517 hg w2 hbox hb; have BK517 := Aside0.mk (hbox); have GW517 := Aside0.mk ((by rw [hg]; exact (below_size (bl HB.out)) : w.heap.size ≤ gb517)); have GE517 := GW517; replace HB := Aside0.mk (below_step (bl HB.out) hb); clear hb hbox hg) | ((with_reducible refine gate_dst (N := 4) rfl ?_); refine box_event ?hg (N := 4) ?hd (cs := #[.int .i64 0, .int .i64 0, .int .i64 0, .int .i64 0, .string (⟨#[]⟩ : ByteArray), .string (⟨#[]⟩ : ByteArray)]) (t := 26) ?hr ?_; (case hd => rfl); (case hg => rfl); (case hr => first | (go_simp; done) | (go_simp; rfl)); intro gb518 hg w3 hbox hb; have BK518 := Aside0.mk (hbox); have GW518 := Aside0.mk ((by rw [hg]; exact (below_size (by repeat (first | (with_reducible first | exact HB.out | apply below_alloc | apply pw_below_drewN | apply below_drew1 | refine below_set ?_ GE517.out) | exact HB.out))) : w.heap.size ≤ gb518)); have GE518 := GW518; replace HB := Aside0.mk (below_step (by repeat (first | (with_reducible first | exact HB.out | apply below_alloc | apply pw_below_drewN | apply below_drew1 | refine below_set ?_ GE517.out) | exact HB.out)) hb); obtain ⟨NB517_518, NB518_517⟩ := nbp hg (pl BK517.out); replace BK517 := Aside0.mk (blk_below (pl BK517.out) hb); clear hb hbox hg))
 go_loopg [11] k (fun kq v11 w' => ∃ (x11_1 : Int) (x518000_1 : Int) (x518001_1 : Int) (x518002_1 : Int) (x518003_1 : Int) (x518004_1 : ByteArray) (x518005_1 : ByteArray) (x519000_1 : Int) (x519001_1 : Int) (x519002_1 : Int) (x519003_1 : Int) (x519004_1 : ByteArray) (x519005_1 : ByteArray), v11 = .int .i64 x11_1 ∧ Aside0 (weld_Sum.l0 kq l0 (l0.length : Int) x11_1 x519000_1 x519001_1 x519002_1 x519003_1 x519004_1 x519005_1 = some (r1, r2, r3, r4, r5, r6, r7)) ∧ Aside0 (kq ≤ k) ∧ Aside0 (w'.heap[gb517]? = some (.cells #[.int .i64 x518000_1, .int .i64 x518001_1, .int .i64 x518002_1, .int .i64 x518003_1, .string x518004_1, .string x518005_1] 26 (0, 0))) ∧ Aside0 (w'.heap[gb518]? = some (.cells #[.int .i64 x519000_1, .int .i64 x519001_1, .int .i64 x519002_1, .int .i64 x519003_1, .string x519004_1, .string x519005_1] 26 (0, 0))) ∧ Aside0 (Below w.heap.size w w'))
 case atStart => exact ⟨(0), (0), (0), (0), (0), ((⟨#[]⟩ : ByteArray)), ((⟨#[]⟩ : ByteArray)), (0), (0), (0), (0), ((⟨#[]⟩ : ByteArray)), ((⟨#[]⟩ : ByteArray)), (by first | rfl | (simp; done) | (simp [*]; done)), H', ⟨Nat.le_refl _⟩, ⟨pl BK517.out⟩, ⟨pl BK518.out⟩, ⟨by repeat (first | (with_reducible first | exact HB.out | apply below_alloc | apply pw_below_drewN | apply below_drew1 | refine below_set ?_ GE517.out | refine below_set ?_ GE518.out) | exact HB.out)⟩⟩
 case round =>
  clear H'
  (try clear c2); (try clear p2)
  obtain ⟨x11_1, x518000_1, x518001_1, x518002_1, x518003_1, x518004_1, x518005_1, x519000_1, x519001_1, x519002_1, x519003_1, x519004_1, x519005_1, rfl, HA, HK1, BK517, BK518, HB⟩ := hrel
  cases gk with
  | zero => exact absurd HA.out (by simp [weld_Sum.l0])
  | succ k1 =>
   have H := HA.out; clear HA
   simp only [weld_Sum.l0] at H
   by_cases c4 : x11_1 < (l0.length : Int)
   ·rw [if_pos c4] at H
    have c4b0 : decide (x11_1 < (l0.length : Int)) = true := decide_eq_true c4
    clear c4
    by_cases c5 : 0 ≤ x11_1
    ·rw [if_pos c5] at H
     have c5b0 : decide (0 ≤ x11_1) = true := decide_eq_true c5
     clear c5
     by_cases c6 : x11_1 < (l0.length : Int)
     ·rw [if_pos c6] at H
      have c6b0 : decide (x11_1 < (l0.length : Int)) = true := decide_eq_true c6
      clear c6
      replace H := Option.bind_eq_some_iff.mp H
      obtain ⟨⟨t521, t522, t523, t524, t525, t526, t527⟩, A70, H⟩ := H
      replace H : (if t527 = 0 then (weld_Sum.l0 k1 l0 (l0.length : Int) (wrap64 (x11_1 + 1)) t521 t522 t523 t524 t525 t526) else (some (0, 0, 0, 0, (⟨#[]⟩ : ByteArray), (⟨#[]⟩ : ByteArray), t527))) = some (r1, r2, r3, r4, r5, r6, r7) := H
      have A7 := Aside0.mk A70; clear A70
      by_cases c8 : t527 = 0
      ·rw [if_pos c8] at H
       have c8b0 : (t527 == 0) = true := beq_iff_eq.mpr c8
       have c8b1 : (t527 != 0) = false := bne_eq_false_iff_eq.mpr c8
       clear c8; have H' := Aside0.mk H; clear H
       have p519 : 0 ≤ (x11_1 : Int) := of_decide_eq_true (by first | (with_reducible assumption) | assumption)
       have q519 : x11_1 < (l0.length : Int) := of_decide_eq_true (by first | (with_reducible assumption) | assumption)
       obtain ⟨ad519, e519, hx519_0, hx519_1, hx519_2, hx519_3, hx519_4, hx519_5⟩ := at_T26 HR0.out x11_1 p519 q519
       cases e519
       replace hx519_0 := (HB.out.cell (World.block_lt_of_cell? w _ hx519_0)).trans hx519_0
       replace hx519_1 := (HB.out.cell (World.block_lt_of_cell? w _ hx519_1)).trans hx519_1
       replace hx519_2 := (HB.out.cell (World.block_lt_of_cell? w _ hx519_2)).trans hx519_2
       replace hx519_3 := (HB.out.cell (World.block_lt_of_cell? w _ hx519_3)).trans hx519_3
       replace hx519_4 := (HB.out.cell (World.block_lt_of_cell? w _ hx519_4)).trans hx519_4
       replace hx519_5 := (HB.out.cell (World.block_lt_of_cell? w _ hx519_5)).trans hx519_5
       replace p519 := eq_true p519
       replace q519 := eq_true q519
       go_wp2_with (first | ((with_reducible refine gate_dst (N := 6) rfl ?_); refine box_event ?hg (N := 6) ?hd (cs := #[.int .i64 0, .int .i64 0, .int .i64 0, .int .i64 0, .string (⟨#[]⟩ : ByteArray), .string (⟨#[]⟩ : ByteArray)]) (t := 26) ?hr ?_; (case hd => rfl); (case hg => rfl); (case hr => first | (go_simp; done) | (go_simp; rfl)); intro gb520 hg w9 hbox hb; have BK520 := Aside0.mk (hbox); have GW520 := Aside0.mk ((by rw [hg]; exact (below_size (by repeat (first | (with_reducible first | exact HB.out | apply below_alloc | apply pw_below_drewN | apply below_drew1 | refine below_set ?_ GE517.out | refine below_set ?_ GE518.out) | exact HB.out))) : w.heap.size ≤ gb520)); have GE520 := GW520; replace HB := Aside0.mk (below_step (by repeat (first | (with_reducible first | exact HB.out | apply below_alloc | apply pw_below_drewN | apply below_drew1 | refine below_set ?_ GE517.out | refine below_set ?_ GE518.out) | exact HB.out)) hb); obtain ⟨NB517_520, NB520_517⟩ := nbp hg (pl BK517.out); replace BK517 := Aside0.mk (blk_below (pl BK517.out) hb); obtain ⟨NB518_520, NB520_518⟩ := nbp hg (pl BK518.out); replace BK518 := Aside0.mk (blk_below (pl BK518.out) hb); clear hb hbox hg; have hnb10 := NB520_517.out; have hnc10 := NB517_520.out; have hnb11 := NB520_518.out; have hnc11 := NB518_520.out; obtain ⟨hcz12_0, hcz12_1, hcz12_2, hcz12_3, hcz12_4, hcz12_5⟩ := Go.Proofs.YtaojbcplmdjfnaaDoorW.PrintWords.c6 BK520.out; obtain ⟨hfz12_0, hfz12_1, hfz12_2, hfz12_3, hfz12_4, hfz12_5⟩ := f6 BK520.out; have hnb13 := NB518_517.out; have hnc13 := NB517_518.out; obtain ⟨hcz14_0, hcz14_1, hcz14_2, hcz14_3, hcz14_4, hcz14_5⟩ := Go.Proofs.YtaojbcplmdjfnaaDoorW.PrintWords.c6 BK518.out; obtain ⟨hfz14_0, hfz14_1, hfz14_2, hfz14_3, hfz14_4, hfz14_5⟩ := f6 BK518.out) | ((with_reducible refine gate_callee (f := 17) rfl ?_); refine goesL_ (some 18) rfl rfl Tryd.func17 (by kernel_rfl) rfl #[.agg #[.int .i64 x519000_1, .int .i64 x519001_1, .int .i64 x519002_1, .int .i64 x519003_1, .string x519004_1, .string x519005_1], .agg #[.int .i64 ((rd_T26 l0 x11_1).f0.f0), .int .i64 ((rd_T26 l0 x11_1).f0.f1), .int .i64 ((rd_T26 l0 x11_1).f0.f2), .int .i64 ((rd_T26 l0 x11_1).f0.f3), .string ((rd_T26 l0 x11_1).f1), .string ((rd_T26 l0 x11_1).f2)]] rfl (by (try simp only [List.map_toArray, List.map_cons, List.map_nil]); first | done | rfl | (simp only [List.length_drop, List.length_take]; rfl)) ?_; (with_reducible refine (weld_Join.calls k1 x519000_1 x519001_1 x519002_1 x519003_1 x519004_1 x519005_1 ((rd_T26 l0 x11_1).f0.f0) ((rd_T26 l0 x11_1).f0.f1) ((rd_T26 l0 x11_1).f0.f2) ((rd_T26 l0 x11_1).f0.f3) ((rd_T26 l0 x11_1).f1) ((rd_T26 l0 x11_1).f2) t521 t522 t523 t524 t525 t526 t527 _ ?side1 A7.out).mono ?_); (case side1 => first | (with_reducible exact HG.out) | exact Glob.Globs_below HG.out (by repeat (first | (with_reducible first | exact HB.out | apply below_alloc | apply pw_below_drewN | apply below_drew1 | refine below_set ?_ GE517.out | refine below_set ?_ GE518.out | refine below_set ?_ GE520.out) | exact HB.out))); rintro e w15 ⟨rfl, hb⟩; refine ⟨_, rfl, ?_⟩; replace BK517 := Aside0.mk (blk_below (g := gb517) (o := .cells #[.int .i64 x518000_1, .int .i64 x518001_1, .int .i64 x518002_1, .int .i64 x518003_1, .string x518004_1, .string x518005_1] 26 (0, 0)) (by refine pl ?_; refine blk_far ?_ NB517_520.out _; refine pl ?_; refine blk_far ?_ NB517_520.out _; refine pl ?_; refine blk_far ?_ NB517_520.out _; refine pl ?_; refine blk_far ?_ NB517_520.out _; refine pl ?_; refine blk_far ?_ NB517_520.out _; refine pl ?_; refine blk_far ?_ NB517_520.out _; refine pl ?_; exact BK517.out) hb); replace BK518 := Aside0.mk (blk_below (g := gb518) (o := .cells #[.int .i64 x519000_1, .int .i64 x519001_1, .int .i64 x519002_1, .int .i64 x519003_1, .string x519004_1, .string x519005_1] 26 (0, 0)) (by refine pl ?_; refine blk_far ?_ NB518_520.out _; refine pl ?_; refine blk_far ?_ NB518_520.out _; refine pl ?_; refine blk_far ?_ NB518_520.out _; refine pl ?_; refine blk_far ?_ NB518_520.out _; refine pl ?_; refine blk_far ?_ NB518_520.out _; refine pl ?_; refine blk_far ?_ NB518_520.out _; refine pl ?_; exact BK518.out) hb); replace BK520 := Aside0.mk (blk_below (g := gb520) (o := .cells #[.int .i64 ((rd_T26 l0 x11_1).f0.f0), .int .i64 ((rd_T26 l0 x11_1).f0.f1), .int .i64 ((rd_T26 l0 x11_1).f0.f2), .int .i64 ((rd_T26 l0 x11_1).f0.f3), .string ((rd_T26 l0 x11_1).f1), .string ((rd_T26 l0 x11_1).f2)] 26 (0, 0)) (by refine pl ?_; refine blk_put (cs := #[.int .i64 ((rd_T26 l0 x11_1).f0.f0), .int .i64 ((rd_T26 l0 x11_1).f0.f1), .int .i64 ((rd_T26 l0 x11_1).f0.f2), .int .i64 ((rd_T26 l0 x11_1).f0.f3), .string ((rd_T26 l0 x11_1).f1), .string (⟨#[]⟩ : ByteArray)]) ?_ 5 _ rfl; refine pl ?_; refine blk_put (cs := #[.int .i64 ((rd_T26 l0 x11_1).f0.f0), .int .i64 ((rd_T26 l0 x11_1).f0.f1), .int .i64 ((rd_T26 l0 x11_1).f0.f2), .int .i64 ((rd_T26 l0 x11_1).f0.f3), .string (⟨#[]⟩ : ByteArray), .string (⟨#[]⟩ : ByteArray)]) ?_ 4 _ rfl; refine pl ?_; refine blk_put (cs := #[.int .i64 ((rd_T26 l0 x11_1).f0.f0), .int .i64 ((rd_T26 l0 x11_1).f0.f1), .int .i64 ((rd_T26 l0 x11_1).f0.f2), .int .i64 0, .string (⟨#[]⟩ : ByteArray), .string (⟨#[]⟩ : ByteArray)]) ?_ 3 _ rfl; refine pl ?_; refine blk_put (cs := #[.int .i64 ((rd_T26 l0 x11_1).f0.f0), .int .i64 ((rd_T26 l0 x11_1).f0.f1), .int .i64 0, .int .i64 0, .string (⟨#[]⟩ : ByteArray), .string (⟨#[]⟩ : ByteArray)]) ?_ 2 _ rfl; refine pl ?_; refine blk_put (cs := #[.int .i64 ((rd_T26 l0 x11_1).f0.f0), .int .i64 0, .int .i64 0, .int .i64 0, .string (⟨#[]⟩ : ByteArray), .string (⟨#[]⟩ : ByteArray)]) ?_ 1 _ rfl; refine pl ?_; refine blk_put (cs := #[.int .i64 0, .int .i64 0, .int .i64 0, .int .i64 0, .string (⟨#[]⟩ : ByteArray), .string (⟨#[]⟩ : ByteArray)]) ?_ 0 _ rfl; refine pl ?_; exact BK520.out) hb); replace HB := Aside0.mk (below_step (by repeat (first | (with_reducible first | exact HB.out | apply below_alloc | apply pw_below_drewN | apply below_drew1 | refine below_set ?_ GE517.out | refine below_set ?_ GE518.out | refine below_set ?_ GE520.out) | exact HB.out)) hb); (try clear hb); (try clear hb2); (try clear hk); (try clear hi)) | ((with_reducible refine gate_dst (N := 7) rfl ?_); refine box_event ?hg (N := 7) ?hd (cs := #[.int .i64 0, .int .i64 0, .int .i64 0, .int .i64 0, .string (⟨#[]⟩ : ByteArray), .string (⟨#[]⟩ : ByteArray)]) (t := 26) ?hr ?_; (case hd => rfl); (case hg => rfl); (case hr => first | (go_simp; done) | (go_simp; rfl)); intro gb528 hg w16 hbox hb; have BK528 := Aside0.mk (hbox); have GW528 := Aside0.mk ((by rw [hg]; exact (below_size (by repeat (first | (with_reducible first | exact HB.out | apply below_alloc | apply pw_below_drewN | apply below_drew1 | refine below_set ?_ GE517.out | refine below_set ?_ GE518.out | refine below_set ?_ GE520.out) | exact HB.out))) : w.heap.size ≤ gb528)); have GE528 := GW528; replace HB := Aside0.mk (below_step (by repeat (first | (with_reducible first | exact HB.out | apply below_alloc | apply pw_below_drewN | apply below_drew1 | refine below_set ?_ GE517.out | refine below_set ?_ GE518.out | refine below_set ?_ GE520.out) | exact HB.out)) hb); obtain ⟨NB517_528, NB528_517⟩ := nbp hg (pl BK517.out); replace BK517 := Aside0.mk (blk_below (pl BK517.out) hb); obtain ⟨NB518_528, NB528_518⟩ := nbp hg (pl BK518.out); replace BK518 := Aside0.mk (blk_below (pl BK518.out) hb); obtain ⟨NB520_528, NB528_520⟩ := nbp hg (pl BK520.out); replace BK520 := Aside0.mk (blk_below (pl BK520.out) hb); clear hb hbox hg; have hnb17 := NB528_517.out; have hnc17 := NB517_528.out; have hnb18 := NB528_518.out; have hnc18 := NB518_528.out; have hnb19 := NB528_520.out; have hnc19 := NB520_528.out; obtain ⟨hcz20_0, hcz20_1, hcz20_2, hcz20_3, hcz20_4, hcz20_5⟩ := Go.Proofs.YtaojbcplmdjfnaaDoorW.PrintWords.c6 BK528.out; obtain ⟨hfz20_0, hfz20_1, hfz20_2, hfz20_3, hfz20_4, hfz20_5⟩ := f6 BK528.out; obtain ⟨hcz21_0, hcz21_1, hcz21_2, hcz21_3, hcz21_4, hcz21_5⟩ := Go.Proofs.YtaojbcplmdjfnaaDoorW.PrintWords.c6 BK518.out; obtain ⟨hfz21_0, hfz21_1, hfz21_2, hfz21_3, hfz21_4, hfz21_5⟩ := f6 BK518.out))
       go_roundg k1
       case measure => have := HK1.out; omega
       case rel => exact ⟨(wrap64 (x11_1 + 1)), (x518000_1), (x518001_1), (x518002_1), (x518003_1), (x518004_1), (x518005_1), (t521), (t522), (t523), (t524), (t525), (t526), (by first | rfl | (simp; done) | (simp [*]; done)), H', ⟨by have := HK1.out; omega⟩, ⟨by refine pl ?_; refine blk_far ?_ NB517_518.out _; refine pl ?_; refine blk_far ?_ NB517_518.out _; refine pl ?_; refine blk_far ?_ NB517_518.out _; refine pl ?_; refine blk_far ?_ NB517_518.out _; refine pl ?_; refine blk_far ?_ NB517_518.out _; refine pl ?_; refine blk_far ?_ NB517_518.out _; refine pl ?_; refine blk_far ?_ NB517_528.out _; refine pl ?_; refine blk_far ?_ NB517_528.out _; refine pl ?_; refine blk_far ?_ NB517_528.out _; refine pl ?_; refine blk_far ?_ NB517_528.out _; refine pl ?_; refine blk_far ?_ NB517_528.out _; refine pl ?_; refine blk_far ?_ NB517_528.out _; refine pl ?_; exact BK517.out⟩, ⟨by refine pl ?_; refine blk_put (cs := #[.int .i64 t521, .int .i64 t522, .int .i64 t523, .int .i64 t524, .string t525, .string x519005_1]) ?_ 5 _ rfl; refine pl ?_; refine blk_put (cs := #[.int .i64 t521, .int .i64 t522, .int .i64 t523, .int .i64 t524, .string x519004_1, .string x519005_1]) ?_ 4 _ rfl; refine pl ?_; refine blk_put (cs := #[.int .i64 t521, .int .i64 t522, .int .i64 t523, .int .i64 x519003_1, .string x519004_1, .string x519005_1]) ?_ 3 _ rfl; refine pl ?_; refine blk_put (cs := #[.int .i64 t521, .int .i64 t522, .int .i64 x519002_1, .int .i64 x519003_1, .string x519004_1, .string x519005_1]) ?_ 2 _ rfl; refine pl ?_; refine blk_put (cs := #[.int .i64 t521, .int .i64 x519001_1, .int .i64 x519002_1, .int .i64 x519003_1, .string x519004_1, .string x519005_1]) ?_ 1 _ rfl; refine pl ?_; refine blk_put (cs := #[.int .i64 x519000_1, .int .i64 x519001_1, .int .i64 x519002_1, .int .i64 x519003_1, .string x519004_1, .string x519005_1]) ?_ 0 _ rfl; refine pl ?_; refine blk_far ?_ NB518_528.out _; refine pl ?_; refine blk_far ?_ NB518_528.out _; refine pl ?_; refine blk_far ?_ NB518_528.out _; refine pl ?_; refine blk_far ?_ NB518_528.out _; refine pl ?_; refine blk_far ?_ NB518_528.out _; refine pl ?_; refine blk_far ?_ NB518_528.out _; refine pl ?_; exact BK518.out⟩, ⟨by repeat (first | (with_reducible first | exact HB.out | apply below_alloc | apply pw_below_drewN | apply below_drew1 | refine below_set ?_ GE517.out | refine below_set ?_ GE518.out | refine below_set ?_ GE520.out | refine below_set ?_ GE528.out) | exact HB.out)⟩⟩
      ·rw [if_neg c8] at H
       have c8b0 : (t527 == 0) = false := beq_eq_false_iff_ne.mpr c8
       have c8b1 : (t527 != 0) = true := bne_iff_ne.mpr c8
       simp only [Option.some.injEq, Prod.mk.injEq] at H
       obtain ⟨rfl, rfl, rfl, rfl, rfl, rfl, rfl⟩ := H
       have p519 : 0 ≤ (x11_1 : Int) := of_decide_eq_true (by first | (with_reducible assumption) | assumption)
       have q519 : x11_1 < (l0.length : Int) := of_decide_eq_true (by first | (with_reducible assumption) | assumption)
       obtain ⟨ad519, e519, hx519_0, hx519_1, hx519_2, hx519_3, hx519_4, hx519_5⟩ := at_T26 HR0.out x11_1 p519 q519
       cases e519
       replace hx519_0 := (HB.out.cell (World.block_lt_of_cell? w _ hx519_0)).trans hx519_0
       replace hx519_1 := (HB.out.cell (World.block_lt_of_cell? w _ hx519_1)).trans hx519_1
       replace hx519_2 := (HB.out.cell (World.block_lt_of_cell? w _ hx519_2)).trans hx519_2
       replace hx519_3 := (HB.out.cell (World.block_lt_of_cell? w _ hx519_3)).trans hx519_3
       replace hx519_4 := (HB.out.cell (World.block_lt_of_cell? w _ hx519_4)).trans hx519_4
       replace hx519_5 := (HB.out.cell (World.block_lt_of_cell? w _ hx519_5)).trans hx519_5
       replace p519 := eq_true p519
       replace q519 := eq_true q519
       go_wp2_with (first | ((with_reducible refine gate_dst (N := 6) rfl ?_); refine box_event ?hg (N := 6) ?hd (cs := #[.int .i64 0, .int .i64 0, .int .i64 0, .int .i64 0, .string (⟨#[]⟩ : ByteArray), .string (⟨#[]⟩ : ByteArray)]) (t := 26) ?hr ?_; (case hd => rfl); (case hg => rfl); (case hr => first | (go_simp; done) | (go_simp; rfl)); intro gb520 hg w22 hbox hb; have BK520 := Aside0.mk (hbox); have GW520 := Aside0.mk ((by rw [hg]; exact (below_size (by repeat (first | (with_reducible first | exact HB.out | apply below_alloc | apply pw_below_drewN | apply below_drew1 | refine below_set ?_ GE517.out | refine below_set ?_ GE518.out) | exact HB.out))) : w.heap.size ≤ gb520)); have GE520 := GW520; replace HB := Aside0.mk (below_step (by repeat (first | (with_reducible first | exact HB.out | apply below_alloc | apply pw_below_drewN | apply below_drew1 | refine below_set ?_ GE517.out | refine below_set ?_ GE518.out) | exact HB.out)) hb); obtain ⟨NB517_520, NB520_517⟩ := nbp hg (pl BK517.out); replace BK517 := Aside0.mk (blk_below (pl BK517.out) hb); obtain ⟨NB518_520, NB520_518⟩ := nbp hg (pl BK518.out); replace BK518 := Aside0.mk (blk_below (pl BK518.out) hb); clear hb hbox hg; have hnb23 := NB520_517.out; have hnc23 := NB517_520.out; have hnb24 := NB520_518.out; have hnc24 := NB518_520.out; obtain ⟨hcz25_0, hcz25_1, hcz25_2, hcz25_3, hcz25_4, hcz25_5⟩ := Go.Proofs.YtaojbcplmdjfnaaDoorW.PrintWords.c6 BK520.out; obtain ⟨hfz25_0, hfz25_1, hfz25_2, hfz25_3, hfz25_4, hfz25_5⟩ := f6 BK520.out; have hnb26 := NB518_517.out; have hnc26 := NB517_518.out; obtain ⟨hcz27_0, hcz27_1, hcz27_2, hcz27_3, hcz27_4, hcz27_5⟩ := Go.Proofs.YtaojbcplmdjfnaaDoorW.PrintWords.c6 BK518.out; obtain ⟨hfz27_0, hfz27_1, hfz27_2, hfz27_3, hfz27_4, hfz27_5⟩ := f6 BK518.out) | ((with_reducible refine gate_callee (f := 17) rfl ?_); refine goesL_ (some 18) rfl rfl Tryd.func17 (by kernel_rfl) rfl #[.agg #[.int .i64 x519000_1, .int .i64 x519001_1, .int .i64 x519002_1, .int .i64 x519003_1, .string x519004_1, .string x519005_1], .agg #[.int .i64 ((rd_T26 l0 x11_1).f0.f0), .int .i64 ((rd_T26 l0 x11_1).f0.f1), .int .i64 ((rd_T26 l0 x11_1).f0.f2), .int .i64 ((rd_T26 l0 x11_1).f0.f3), .string ((rd_T26 l0 x11_1).f1), .string ((rd_T26 l0 x11_1).f2)]] rfl (by (try simp only [List.map_toArray, List.map_cons, List.map_nil]); first | done | rfl | (simp only [List.length_drop, List.length_take]; rfl)) ?_; (with_reducible refine (weld_Join.calls k1 x519000_1 x519001_1 x519002_1 x519003_1 x519004_1 x519005_1 ((rd_T26 l0 x11_1).f0.f0) ((rd_T26 l0 x11_1).f0.f1) ((rd_T26 l0 x11_1).f0.f2) ((rd_T26 l0 x11_1).f0.f3) ((rd_T26 l0 x11_1).f1) ((rd_T26 l0 x11_1).f2) t521 t522 t523 t524 t525 t526 t527 _ ?side1 A7.out).mono ?_); (case side1 => first | (with_reducible exact HG.out) | exact Glob.Globs_below HG.out (by repeat (first | (with_reducible first | exact HB.out | apply below_alloc | apply pw_below_drewN | apply below_drew1 | refine below_set ?_ GE517.out | refine below_set ?_ GE518.out | refine below_set ?_ GE520.out) | exact HB.out))); rintro e w28 ⟨rfl, hb⟩; refine ⟨_, rfl, ?_⟩; replace BK517 := Aside0.mk (blk_below (g := gb517) (o := .cells #[.int .i64 x518000_1, .int .i64 x518001_1, .int .i64 x518002_1, .int .i64 x518003_1, .string x518004_1, .string x518005_1] 26 (0, 0)) (by refine pl ?_; refine blk_far ?_ NB517_520.out _; refine pl ?_; refine blk_far ?_ NB517_520.out _; refine pl ?_; refine blk_far ?_ NB517_520.out _; refine pl ?_; refine blk_far ?_ NB517_520.out _; refine pl ?_; refine blk_far ?_ NB517_520.out _; refine pl ?_; refine blk_far ?_ NB517_520.out _; refine pl ?_; exact BK517.out) hb); replace BK518 := Aside0.mk (blk_below (g := gb518) (o := .cells #[.int .i64 x519000_1, .int .i64 x519001_1, .int .i64 x519002_1, .int .i64 x519003_1, .string x519004_1, .string x519005_1] 26 (0, 0)) (by refine pl ?_; refine blk_far ?_ NB518_520.out _; refine pl ?_; refine blk_far ?_ NB518_520.out _; refine pl ?_; refine blk_far ?_ NB518_520.out _; refine pl ?_; refine blk_far ?_ NB518_520.out _; refine pl ?_; refine blk_far ?_ NB518_520.out _; refine pl ?_; refine blk_far ?_ NB518_520.out _; refine pl ?_; exact BK518.out) hb); replace BK520 := Aside0.mk (blk_below (g := gb520) (o := .cells #[.int .i64 ((rd_T26 l0 x11_1).f0.f0), .int .i64 ((rd_T26 l0 x11_1).f0.f1), .int .i64 ((rd_T26 l0 x11_1).f0.f2), .int .i64 ((rd_T26 l0 x11_1).f0.f3), .string ((rd_T26 l0 x11_1).f1), .string ((rd_T26 l0 x11_1).f2)] 26 (0, 0)) (by refine pl ?_; refine blk_put (cs := #[.int .i64 ((rd_T26 l0 x11_1).f0.f0), .int .i64 ((rd_T26 l0 x11_1).f0.f1), .int .i64 ((rd_T26 l0 x11_1).f0.f2), .int .i64 ((rd_T26 l0 x11_1).f0.f3), .string ((rd_T26 l0 x11_1).f1), .string (⟨#[]⟩ : ByteArray)]) ?_ 5 _ rfl; refine pl ?_; refine blk_put (cs := #[.int .i64 ((rd_T26 l0 x11_1).f0.f0), .int .i64 ((rd_T26 l0 x11_1).f0.f1), .int .i64 ((rd_T26 l0 x11_1).f0.f2), .int .i64 ((rd_T26 l0 x11_1).f0.f3), .string (⟨#[]⟩ : ByteArray), .string (⟨#[]⟩ : ByteArray)]) ?_ 4 _ rfl; refine pl ?_; refine blk_put (cs := #[.int .i64 ((rd_T26 l0 x11_1).f0.f0), .int .i64 ((rd_T26 l0 x11_1).f0.f1), .int .i64 ((rd_T26 l0 x11_1).f0.f2), .int .i64 0, .string (⟨#[]⟩ : ByteArray), .string (⟨#[]⟩ : ByteArray)]) ?_ 3 _ rfl; refine pl ?_; refine blk_put (cs := #[.int .i64 ((rd_T26 l0 x11_1).f0.f0), .int .i64 ((rd_T26 l0 x11_1).f0.f1), .int .i64 0, .int .i64 0, .string (⟨#[]⟩ : ByteArray), .string (⟨#[]⟩ : ByteArray)]) ?_ 2 _ rfl; refine pl ?_; refine blk_put (cs := #[.int .i64 ((rd_T26 l0 x11_1).f0.f0), .int .i64 0, .int .i64 0, .int .i64 0, .string (⟨#[]⟩ : ByteArray), .string (⟨#[]⟩ : ByteArray)]) ?_ 1 _ rfl; refine pl ?_; refine blk_put (cs := #[.int .i64 0, .int .i64 0, .int .i64 0, .int .i64 0, .string (⟨#[]⟩ : ByteArray), .string (⟨#[]⟩ : ByteArray)]) ?_ 0 _ rfl; refine pl ?_; exact BK520.out) hb); replace HB := Aside0.mk (below_step (by repeat (first | (with_reducible first | exact HB.out | apply below_alloc | apply pw_below_drewN | apply below_drew1 | refine below_set ?_ GE517.out | refine below_set ?_ GE518.out | refine below_set ?_ GE520.out) | exact HB.out)) hb); (try clear hb); (try clear hb2); (try clear hk); (try clear hi)) | ((with_reducible refine gate_dst (N := 7) rfl ?_); refine box_event ?hg (N := 7) ?hd (cs := #[.int .i64 0, .int .i64 0, .int .i64 0, .int .i64 0, .string (⟨#[]⟩ : ByteArray), .string (⟨#[]⟩ : ByteArray)]) (t := 26) ?hr ?_; (case hd => rfl); (case hg => rfl); (case hr => first | (go_simp; done) | (go_simp; rfl)); intro gb528 hg w29 hbox hb; have BK528 := Aside0.mk (hbox); have GW528 := Aside0.mk ((by rw [hg]; exact (below_size (by repeat (first | (with_reducible first | exact HB.out | apply below_alloc | apply pw_below_drewN | apply below_drew1 | refine below_set ?_ GE517.out | refine below_set ?_ GE518.out | refine below_set ?_ GE520.out) | exact HB.out))) : w.heap.size ≤ gb528)); have GE528 := GW528; replace HB := Aside0.mk (below_step (by repeat (first | (with_reducible first | exact HB.out | apply below_alloc | apply pw_below_drewN | apply below_drew1 | refine below_set ?_ GE517.out | refine below_set ?_ GE518.out | refine below_set ?_ GE520.out) | exact HB.out)) hb); obtain ⟨NB517_528, NB528_517⟩ := nbp hg (pl BK517.out); replace BK517 := Aside0.mk (blk_below (pl BK517.out) hb); obtain ⟨NB518_528, NB528_518⟩ := nbp hg (pl BK518.out); replace BK518 := Aside0.mk (blk_below (pl BK518.out) hb); obtain ⟨NB520_528, NB528_520⟩ := nbp hg (pl BK520.out); replace BK520 := Aside0.mk (blk_below (pl BK520.out) hb); clear hb hbox hg; have hnb30 := NB528_517.out; have hnc30 := NB517_528.out; have hnb31 := NB528_518.out; have hnc31 := NB518_528.out; have hnb32 := NB528_520.out; have hnc32 := NB520_528.out; obtain ⟨hcz33_0, hcz33_1, hcz33_2, hcz33_3, hcz33_4, hcz33_5⟩ := Go.Proofs.YtaojbcplmdjfnaaDoorW.PrintWords.c6 BK528.out; obtain ⟨hfz33_0, hfz33_1, hfz33_2, hfz33_3, hfz33_4, hfz33_5⟩ := f6 BK528.out; obtain ⟨hcz34_0, hcz34_1, hcz34_2, hcz34_3, hcz34_4, hcz34_5⟩ := Go.Proofs.YtaojbcplmdjfnaaDoorW.PrintWords.c6 BK517.out; obtain ⟨hfz34_0, hfz34_1, hfz34_2, hfz34_3, hfz34_4, hfz34_5⟩ := f6 BK517.out))
       refine bodyPost_ret (results_ct rfl _ _ gb517 26 #[.int .i64 0, .int .i64 0, .int .i64 0, .int .i64 0, .string (⟨#[]⟩ : ByteArray), .string (⟨#[]⟩ : ByteArray)] (0, 0) _ rfl (by refine pl ?_; refine blk_put (cs := #[.int .i64 0, .int .i64 0, .int .i64 0, .int .i64 0, .string (⟨#[]⟩ : ByteArray), .string x518005_1]) ?_ 5 _ rfl; refine pl ?_; refine blk_put (cs := #[.int .i64 0, .int .i64 0, .int .i64 0, .int .i64 0, .string x518004_1, .string x518005_1]) ?_ 4 _ rfl; refine pl ?_; refine blk_put (cs := #[.int .i64 0, .int .i64 0, .int .i64 0, .int .i64 x518003_1, .string x518004_1, .string x518005_1]) ?_ 3 _ rfl; refine pl ?_; refine blk_put (cs := #[.int .i64 0, .int .i64 0, .int .i64 x518002_1, .int .i64 x518003_1, .string x518004_1, .string x518005_1]) ?_ 2 _ rfl; refine pl ?_; refine blk_put (cs := #[.int .i64 0, .int .i64 x518001_1, .int .i64 x518002_1, .int .i64 x518003_1, .string x518004_1, .string x518005_1]) ?_ 1 _ rfl; refine pl ?_; refine blk_put (cs := #[.int .i64 x518000_1, .int .i64 x518001_1, .int .i64 x518002_1, .int .i64 x518003_1, .string x518004_1, .string x518005_1]) ?_ 0 _ rfl; refine pl ?_; refine blk_far ?_ NB517_528.out _; refine pl ?_; refine blk_far ?_ NB517_528.out _; refine pl ?_; refine blk_far ?_ NB517_528.out _; refine pl ?_; refine blk_far ?_ NB517_528.out _; refine pl ?_; refine blk_far ?_ NB517_528.out _; refine pl ?_; refine blk_far ?_ NB517_528.out _; refine pl ?_; exact BK517.out) Tryd.underlying26 rfl (by kernel_rfl)) rfl ?_
       exact ⟨by first | rfl | (simp [errW_none, errW_some] <;> rfl) | (simp [*, errW_none, errW_some] <;> rfl), by repeat (first | (with_reducible first | exact HB.out | apply below_alloc | apply pw_below_drewN | apply below_drew1 | refine below_set ?_ GE517.out | refine below_set ?_ GE518.out | refine below_set ?_ GE520.out | refine below_set ?_ GE528.out) | exact HB.out)⟩
     ·rw [if_neg c6] at H
      exact absurd H (by simp)
    ·rw [if_neg c5] at H
     exact absurd H (by simp)
   ·rw [if_neg c4] at H
    have c4b0 : decide (x11_1 < (l0.length : Int)) = false := decide_eq_false c4
    clear c4
    simp only [Option.some.injEq, Prod.mk.injEq] at H
    obtain ⟨rfl, rfl, rfl, rfl, rfl, rfl, rfl⟩ := H
    have hnb35 := NB518_517.out; have hnc35 := NB517_518.out; obtain ⟨hcz36_0, hcz36_1, hcz36_2, hcz36_3, hcz36_4, hcz36_5⟩ := Go.Proofs.YtaojbcplmdjfnaaDoorW.PrintWords.c6 BK518.out; obtain ⟨hfz36_0, hfz36_1, hfz36_2, hfz36_3, hfz36_4, hfz36_5⟩ := f6 BK518.out; obtain ⟨hcz37_0, hcz37_1, hcz37_2, hcz37_3, hcz37_4, hcz37_5⟩ := Go.Proofs.YtaojbcplmdjfnaaDoorW.PrintWords.c6 BK517.out; obtain ⟨hfz37_0, hfz37_1, hfz37_2, hfz37_3, hfz37_4, hfz37_5⟩ := f6 BK517.out
    go_wp2
    refine bodyPost_ret (results_ct rfl _ _ gb517 26 #[.int .i64 x519000_1, .int .i64 x519001_1, .int .i64 x519002_1, .int .i64 x519003_1, .string x519004_1, .string x519005_1] (0, 0) _ rfl (by refine pl ?_; refine blk_put (cs := #[.int .i64 x519000_1, .int .i64 x519001_1, .int .i64 x519002_1, .int .i64 x519003_1, .string x519004_1, .string x518005_1]) ?_ 5 _ rfl; refine pl ?_; refine blk_put (cs := #[.int .i64 x519000_1, .int .i64 x519001_1, .int .i64 x519002_1, .int .i64 x519003_1, .string x518004_1, .string x518005_1]) ?_ 4 _ rfl; refine pl ?_; refine blk_put (cs := #[.int .i64 x519000_1, .int .i64 x519001_1, .int .i64 x519002_1, .int .i64 x518003_1, .string x518004_1, .string x518005_1]) ?_ 3 _ rfl; refine pl ?_; refine blk_put (cs := #[.int .i64 x519000_1, .int .i64 x519001_1, .int .i64 x518002_1, .int .i64 x518003_1, .string x518004_1, .string x518005_1]) ?_ 2 _ rfl; refine pl ?_; refine blk_put (cs := #[.int .i64 x519000_1, .int .i64 x518001_1, .int .i64 x518002_1, .int .i64 x518003_1, .string x518004_1, .string x518005_1]) ?_ 1 _ rfl; refine pl ?_; refine blk_put (cs := #[.int .i64 x518000_1, .int .i64 x518001_1, .int .i64 x518002_1, .int .i64 x518003_1, .string x518004_1, .string x518005_1]) ?_ 0 _ rfl; refine pl ?_; exact BK517.out) Tryd.underlying26 rfl (by kernel_rfl)) rfl ?_
    exact ⟨by first | rfl | (simp [errW_none, errW_some] <;> rfl) | (simp [*, errW_none, errW_some] <;> rfl), by repeat (first | (with_reducible first | exact HB.out | apply below_alloc | apply pw_below_drewN | apply below_drew1 | refine below_set ?_ GE517.out | refine below_set ?_ GE518.out) | exact HB.out)⟩
end Go.Proofs.YtaojbcplmdjfnaaDoor.Pr
