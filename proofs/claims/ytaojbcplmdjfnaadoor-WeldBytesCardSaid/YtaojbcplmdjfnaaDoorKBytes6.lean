/- Part 6 of the lemmas on which the card weldBytes_card stands (its sentence and conditions stand in the last text). Conditions: as each lemma says. -/
import Derived.Test.YtaojbcplmdjfnaaDoorKBytes5
import Derived.Lib.RuneCountTail
import Derived.Lib.Strings
import Derived.Lib.SmallJoins
import Derived.SizedLaws
import Derived.ChangeSlices
namespace Go.Proofs.YtaojbcplmdjfnaaDoor.PuSz
open Go.RowKit Go.Proofs.YtaojbcplmdjfnaaDoor.Pr Go.Proofs.YtaojbcplmdjfnaaDoor.Math Go.Proofs.YtaojbcplmdjfnaaDoorW.PrintWords Go.Proofs.YtaojbcplmdjfnaaDoorW.PrintLast Go.Proofs.YtaojbcplmdjfnaaDoorW.PrintMore
set_option linter.unusedVariables false
set_option linter.unusedSimpArgs false
theorem w64 {n : Int} (h : -4611686018427387904 ≤ n) (h' : n ≤ 4611686018427387904) : wrap64 n = n := wrap64_in' (by omega) (by omega)
theorem rd_getD (l : List Int) (p : Int) (h : p.toNat < l.length) : rd l p = l.getD p.toNat (-1) := by simp [rd, List.getD, List.getElem?_eq_getElem h]
theorem stepF_eq (l : List Int) (hb : Byt l) (p : Nat) (hp : p < l.length) : (stepF ((strOfNums l).extract p (strOfNums l).size)).1 = ru (l.drop p) := by
  have hd : (Utf8.decode ((strOfNums l).extract p (strOfNums l).size) 0).1 = (Utf8.decode (strOfNums l) p).1 := by
    rw [Lib.tail_decode, Nat.add_zero]
  have he := (decode_eq l hb p hp).1
  unfold stepF
  rw [hd, ← he]
  split
  · rename_i h; rw [h.1]; rfl
  · rfl
theorem szAll_eq (l : List Int) (hb : Byt l) (hl : l.length ≤ 4294967296) (fuel : Nat) : ∀ (p : Nat) (z : Int × Int × Int × Int), p ≤ l.length → l.length ≤ p + fuel → 0 ≤ z.1 → z.1 ≤ p → 0 ≤ z.2.1 → z.2.1 ≤ 2 * p → 0 ≤ z.2.2.1 → z.2.2.1 ≤ p →
    ((stepsN (strOfNums l) fuel p).foldl szStep z).1 = z.1 + rn (l.drop p) ∧ ((stepsN (strOfNums l) fuel p).foldl szStep z).2.1 = z.2.1 + (rn (l.drop p) + fr (l.drop p)) ∧ ((stepsN (strOfNums l) fuel p).foldl szStep z).2.2.1 = z.2.2.1 + en z.2.2.2 (l.drop p) := by
  have hsz : (strOfNums l).size = l.length := by
    show (strOfNums l).data.size = _
    rw [← Array.length_toList, strOfNums_data, List.length_map]
  induction fuel with
  | zero =>
    intro p z hp hf _ _ _ _ _ _
    have : p = l.length := by omega
    subst this
    simp [stepsN, rn, fr, en]
  | succ fuel ih =>
    intro p z hp hf h1 h2 h3 h4 h5 h6
    by_cases hlt : p < l.length
    · have hd := decode_eq l hb p hlt
      have hw := wd_pos (l.drop p)
      have hwl : p + wd (l.drop p) ≤ l.length := by
        have := lg_len (l.drop p); simp at this
        unfold wd; split <;> omega
      obtain ⟨x, t, hxt⟩ : ∃ x t, l.drop p = x :: t := by
        cases h : l.drop p with
        | nil => have := congrArg List.length h; simp at this; omega
        | cons x t => exact ⟨x, t, rfl⟩
      have h0 : 0 ≤ x := (hb.drop p x (by rw [hxt]; simp)).1
      have hr := ru_facts x t h0
      have hdd : l.drop (p + wd (l.drop p)) = (x :: t).drop (wd (x :: t)) := by rw [← hxt, List.drop_drop]
      rw [stepsN, if_pos (by rw [hsz]; exact hlt), List.foldl_cons, hd.2]
      have hun : unitsN (ru (l.drop p)) = if lg (x :: t) = 4 then 2 else 1 := by
        unfold unitsN
        rw [hxt]
        by_cases h : lg (x :: t) = 4
        · rw [if_pos (hr.2.2.1.2 h), if_pos h]
        · rw [if_neg (fun c => h (hr.2.2.1.1 c)), if_neg h]
      have hu : (if lg (x :: t) = 4 then (2 : Int) else 1) = 2 ∨ (if lg (x :: t) = 4 then (2 : Int) else 1) = 1 := by split <;> simp
      have hst : szStep z (p, stepF ((strOfNums l).extract p (strOfNums l).size)) = (z.1 + 1, z.2.1 + (if lg (x :: t) = 4 then 2 else 1), z.2.2.1 + (if ru (x :: t) = 13 ∨ (ru (x :: t) = 10 ∧ z.2.2.2 ≠ 13) then 1 else 0), ru (x :: t)) := by
        unfold szStep
        simp only [stepF_eq l hb p hlt]
        rw [hun, w64 (by omega) (by omega), w64 (by omega) (by omega), w64 (by omega) (by omega), hxt]
        congr 3
        split <;> simp
      have hen : (if ru (x :: t) = 13 ∨ (ru (x :: t) = 10 ∧ z.2.2.2 ≠ 13) then (1 : Int) else 0) = 1 ∨ (if ru (x :: t) = 13 ∨ (ru (x :: t) = 10 ∧ z.2.2.2 ≠ 13) then (1 : Int) else 0) = 0 := by split <;> simp
      rw [hst]
      have hi := ih (p + wd (l.drop p)) (z.1 + 1, z.2.1 + (if lg (x :: t) = 4 then 2 else 1), z.2.2.1 + (if ru (x :: t) = 13 ∨ (ru (x :: t) = 10 ∧ z.2.2.2 ≠ 13) then 1 else 0), ru (x :: t)) hwl (by omega)
        (by show 0 ≤ z.1 + 1; omega) (by show z.1 + 1 ≤ ((p + wd (l.drop p) : Nat) : Int); omega) (by show 0 ≤ z.2.1 + _; omega) (by show z.2.1 + _ ≤ 2 * ((p + wd (l.drop p) : Nat) : Int); omega) (by show 0 ≤ z.2.2.1 + _; omega) (by show z.2.2.1 + _ ≤ ((p + wd (l.drop p) : Nat) : Int); omega)
      obtain ⟨i1, i2, i3⟩ := hi
      refine ⟨i1.trans ?_, i2.trans ?_, i3.trans ?_⟩
      · rw [hdd, hxt, rn_step]; show z.1 + 1 + _ = _; omega
      · rw [hdd, hxt, rn_step, fr_step]
        show z.2.1 + _ + _ = _
        have : (if lg (x :: t) = 4 then (2 : Int) else 1) = 1 + (if lg (x :: t) = 4 then 1 else 0) := by split <;> rfl
        omega
      · rw [hdd, hxt, en_step _ _ _ h0]; show z.2.2.1 + _ + en (ru (x :: t)) _ = _; omega
    · have : p = l.length := by omega
      subst this
      rw [stepsN, if_neg (by rw [hsz]; exact hlt)]
      simp [rn, fr, en]
theorem weldSizes_eq (l : List Int) (hb : Byt l) (hl : l.length ≤ 4294967296) : weld_Sizes.f l = some ((l.length : Int), rn l, rn l + fr l, en 0 l) := by
  have hsz : (strOfNums l).size = l.length := by
    show (strOfNums l).data.size = _
    rw [← Array.length_toList, strOfNums_data, List.length_map]
  have h := szAll_eq l hb hl (strOfNums l).size 0 (0, 0, 0, 0) (by omega) (by rw [hsz]; omega) (by decide) (by decide) (by decide) (by decide) (by decide) (by decide)
  rw [List.drop_zero] at h
  unfold weld_Sizes.f szAll
  rw [h.1, h.2.1, h.2.2]
  simp
end Go.Proofs.YtaojbcplmdjfnaaDoor.PuSz

namespace Go.Proofs.YtaojbcplmdjfnaaDoor.Pr
open Go.RowKit Go.Proofs.YtaojbcplmdjfnaaDoorW.PrintWords Go.Proofs.YtaojbcplmdjfnaaDoorW.PrintLast Go.Proofs.YtaojbcplmdjfnaaDoorW.PrintMore
attribute [local go_sem] max2_int min2_int max_two min_two max_three min_three max_four min_four   -- for this text's walks alone
set_option linter.unusedVariables false
set_option linter.unusedSimpArgs false
attribute [local go_sem high] eqA24
def galleyref05_all.f (a0_0 : Int) (a0_1 : Int) (a0_2 : Int) (a0_3 : Int) (a0_4 : ByteArray) (a0_5 : ByteArray) : Option (ByteArray × Bool) := if a0_0 ≤ 3 then (some (a0_4, (a0_4.toList == a0_5.toList))) else (if 0 ≤ (wrap64 (6 - a0_0)) then (if (wrap64 (6 - a0_0)) ≤ (a0_5.size : Int) then (if a0_4.size + (a0_5.extract ((wrap64 (6 - a0_0)) : Int).toNat a0_5.size).size ≤ 9223372036854775807 then (if 0 ≤ (wrap64 (3 - (wrap64 (6 - a0_0)))) then (if (wrap64 (3 - (wrap64 (6 - a0_0)))) ≤ (a0_4.size : Int) then (some (a0_4 ++ (a0_5.extract ((wrap64 (6 - a0_0)) : Int).toNat a0_5.size), ((a0_4.extract ((wrap64 (3 - (wrap64 (6 - a0_0)))) : Int).toNat a0_4.size).toList == (a0_5.extract 0 ((wrap64 (6 - a0_0)) : Int).toNat).toList))) else (none)) else (none)) else (none)) else (none)) else (none))
def galleyref05_Valid.j0 : Nat → Bool → Int → Int → Int → Int → ByteArray → ByteArray → Int → Int → Int → Int → Option (Bool)
 | 0, _, _, _, _, _, _, _, _, _, _, _ => none
 | k + 1, x36, x296000, x296001, x296002, x296003, x296004, x296005, x297000, x297001, x297002, x297003 => if x36 = true then (some false) else (if x297000 ≤ 6 then ((galleyref05_all.f x296000 x296001 x296002 x296003 x296004 x296005).bind fun bt297 => (if bt297.2 = true then (if bt297.1.size ≤ 9223372036854775807 then ((galleyref05_Sizes.f k (bytesOf bt297.1)).bind fun bt302 => (some (bt302.1 == x297000 && (bt302.2.1 == x297001 && (bt302.2.2.1 == x297002 && (bt302.2.2.2 == x297003)))))) else (none)) else (some false))) else (if x297001 < 0 then (some false) else (if x297001 > x297000 then (some false) else (if x297002 < x297001 then (some false) else (if x297002 > (wrap64 (2 * x297001)) then (some false) else (if (wrap64 (x297000 - (wrap64 (4 * (wrap64 (x297002 - x297001)))))) ≥ (wrap64 (x297001 - (wrap64 (x297002 - x297001)))) then (if (wrap64 (x297000 - (wrap64 (4 * (wrap64 (x297002 - x297001)))))) ≤ (wrap64 (3 * (wrap64 (x297001 - (wrap64 (x297002 - x297001)))))) then (if x297003 ≥ 0 then (some (decide (x297003 ≤ x297001))) else (some false)) else (some false)) else (some false)))))))
def galleyref05_Valid.f (k : Nat) (a0_0 : Int) (a0_1 : Int) (a0_2 : Int) (a0_3 : Int) (a0_4 : ByteArray) (a0_5 : ByteArray) : Option (Bool) := if a0_0 < 0 then (galleyref05_Valid.j0 k true a0_0 a0_1 a0_2 a0_3 a0_4 a0_5 a0_0 a0_1 a0_2 a0_3) else (if a0_0 > 268435456 then (galleyref05_Valid.j0 k true a0_0 a0_1 a0_2 a0_3 a0_4 a0_5 a0_0 a0_1 a0_2 a0_3) else (if (a0_4.size : Int) = (mn 3 a0_0) then (galleyref05_Valid.j0 k ((a0_5.size : Int) != (mn 3 a0_0)) a0_0 a0_1 a0_2 a0_3 a0_4 a0_5 a0_0 a0_1 a0_2 a0_3) else (galleyref05_Valid.j0 k true a0_0 a0_1 a0_2 a0_3 a0_4 a0_5 a0_0 a0_1 a0_2 a0_3)))
end Go.Proofs.YtaojbcplmdjfnaaDoor.Pr

namespace Go.Proofs.YtaojbcplmdjfnaaDoor.PuMs
open Go.RowKit Go.Proofs.YtaojbcplmdjfnaaDoor.Pr Go.Proofs.YtaojbcplmdjfnaaDoor.Math Go.Proofs.YtaojbcplmdjfnaaDoor.PuSz Go.Proofs.YtaojbcplmdjfnaaDoorW.PrintWords Go.Proofs.YtaojbcplmdjfnaaDoorW.PrintLast Go.Proofs.YtaojbcplmdjfnaaDoorW.PrintMore
set_option linter.unusedVariables false
set_option linter.unusedSimpArgs false
theorem bo_byt (s : ByteArray) : Byt (bytesOf s) := by
  intro x hx
  unfold bytesOf at hx
  obtain ⟨b, _, rfl⟩ := List.mem_map.1 hx
  have := UInt8.toNat_lt b
  omega
theorem bo_str (l : List Int) (hb : Byt l) : bytesOf (strOfNums l) = l := by
  unfold bytesOf
  rw [strOfNums_data, List.map_map]
  conv => rhs; rw [← List.map_id l]
  apply List.map_congr_left
  intro x hx
  have := hb x hx
  simp [UInt8.toNat_ofNat']
  omega
theorem ba_ext {s t : ByteArray} (h : s.data.toList = t.data.toList) : s = t := by
  cases s; cases t
  simp only [ByteArray.mk.injEq]
  exact Array.toList_inj.1 h
theorem bo_inj {s t : ByteArray} (h : bytesOf s = bytesOf t) : s = t := by
  apply ba_ext
  unfold bytesOf at h
  exact (List.map_inj_right (fun x y e => UInt8.toNat_inj.1 (by omega))).1 h
theorem bo_append (s t : ByteArray) : bytesOf (s ++ t) = bytesOf s ++ bytesOf t := by unfold bytesOf; rw [ByteArray.data_append, Array.toList_append, List.map_append]
theorem bo_extract (s : ByteArray) (a b : Nat) : bytesOf (s.extract a b) = ((bytesOf s).drop a).take (b - a) := by unfold bytesOf; rw [Lib.extract_data, List.map_take, List.map_drop]
theorem tl_eq (s t : ByteArray) : s.toList = t.toList ↔ bytesOf s = bytesOf t := by
  rw [ByteArray.toList_eq, ByteArray.toList_eq]
  constructor
  · intro h; rw [ba_ext h]
  · intro h; rw [bo_inj h]
theorem tl_beq (s t : ByteArray) : (s.toList == t.toList) = decide (bytesOf s = bytesOf t) := by
  rw [Bool.eq_iff_iff, beq_iff_eq, decide_eq_true_eq, tl_eq]
theorem sz_str (l : List Int) : (strOfNums l).size = l.length := strOfNums_size l
theorem ex_head (s : ByteArray) : bytesOf (s.extract 0 (mn 3 (s.size : Int)).toNat) = (bytesOf s).take 3 := by
  rw [bo_extract, List.drop_zero, Nat.sub_zero]
  unfold mn
  split
  · rw [Int.toNat_natCast, List.take_of_length_le (by rw [bytesOf_length]; omega), List.take_of_length_le (by rw [bytesOf_length]; omega)]
  · rfl
theorem ex_tail (s : ByteArray) (a : Nat) : bytesOf (s.extract a s.size) = (bytesOf s).drop a := by
  rw [bo_extract, List.take_of_length_le (by rw [List.length_drop, bytesOf_length]; omega)]
theorem mx_tail (n : Nat) : (mx 0 ((n : Int) - 3)).toNat = n - 3 := by unfold mx; split <;> omega
theorem mx_le (n : Nat) : 0 ≤ mx 0 ((n : Int) - 3) ∧ mx 0 ((n : Int) - 3) ≤ n := by unfold mx; split <;> omega
theorem mn_le (n : Nat) : 0 ≤ mn 3 (n : Int) ∧ mn 3 (n : Int) ≤ n ∧ (mn 3 (n : Int)).toNat = min 3 n := by unfold mn; split <;> omega
theorem head_eq' (s : ByteArray) : weld_head.f s = some (strOfNums ((bytesOf s).take 3)) := by
  have h := mn_le s.size
  unfold weld_head.f
  rw [if_pos h.1, if_pos h.2.1]
  congr 1
  apply bo_inj
  rw [ex_head, bo_str _ ((bo_byt s).take 3)]
theorem tail_eq (s : ByteArray) (hs : s.size ≤ 4611686018427387904) : weld_tail.f s = some (strOfNums ((bytesOf s).drop (s.size - 3))) := by
  have h := mx_le s.size
  unfold weld_tail.f
  rw [w64 (by omega) (by omega), if_pos h.1, if_pos h.2]
  congr 1
  apply bo_inj
  rw [mx_tail, ex_tail, bo_str _ ((bo_byt s).drop _)]
abbrev Ms := Int × Int × Int × Int × ByteArray × ByteArray
def mOf (l : List Int) : Ms := ((l.length : Int), rn l, rn l + fr l, en 0 l, strOfNums (l.take 3), strOfNums (l.drop (l.length - 3)))
def m0 : Ms := (0, 0, 0, 0, ⟨#[]⟩, ⟨#[]⟩)
theorem mOf_nil : mOf [] = m0 := by
  unfold mOf m0
  rfl
theorem weldOf_eq (l : List Int) (hb : Byt l) (hl : l.length ≤ 268435456) : weld_Of.f l = some (mOf l) := by
  have h := mn_le l.length
  have h' := mx_le l.length
  unfold weld_Of.f
  rw [if_neg (by omega), weldSizes_eq l hb (by omega)]
  simp only [Option.bind_some]
  rw [if_pos h.1, if_pos h.2.1, w64 (by omega) (by omega), if_pos h'.1, if_pos h'.2, mx_tail, h.2.2]
  unfold mOf
  have e : l.take (min 3 l.length) = l.take 3 := by
    by_cases h3 : l.length ≤ 3
    · rw [List.take_of_length_le (by omega), List.take_of_length_le h3]
    · rw [show min 3 l.length = 3 by omega]
  rw [e]
theorem ends_six (n : Nat) (hn : n ≤ 6) (H T : List Int) (hH : H.length = min 3 n) (hT : T.length = min 3 n) (he : H.drop (n - T.length) = T.take (H.length + T.length - n)) :
    (H ++ T.drop (H.length + T.length - n)).length = n ∧ (H ++ T.drop (H.length + T.length - n)).take 3 = H ∧ (H ++ T.drop (H.length + T.length - n)).drop (n - 3) = T := by
  have e1 : (H ++ T.drop (H.length + T.length - n)).length = n := by rw [List.length_append, List.length_drop]; omega
  refine ⟨e1, ?_, ?_⟩
  · by_cases h3 : 3 ≤ n
    · rw [show 3 = H.length by omega, List.take_left]
    · rw [List.take_of_length_le (by omega), List.drop_of_length_le (by omega), List.append_nil]
  · have e2 : H ++ T.drop (H.length + T.length - n) = H.take (n - T.length) ++ T := by
      have e0 : H.take (n - T.length) ++ T.take (H.length + T.length - n) = H := by rw [← he, List.take_append_drop]
      generalize H.length + T.length - n = o at *
      rw [show H ++ T.drop o = (H.take (n - T.length) ++ T.take o) ++ T.drop o by rw [e0], List.append_assoc, List.take_append_drop]
    rw [e2]
    have e3 : n - 3 = (H.take (n - T.length)).length := by rw [List.length_take]; omega
    rw [e3, List.drop_left]
theorem weldShort_eq (n r u e : Int) (h t : ByteArray) (hn : 0 ≤ n ∧ n ≤ 6) (hh : (h.size : Int) = min 3 n) (ht : (t.size : Int) = min 3 n) :
    weld_short.f n r u e h t = some (if (bytesOf h).drop (n.toNat - t.size) = (bytesOf t).take (h.size + t.size - n.toNat) then (strOfNums (bytesOf h ++ (bytesOf t).drop (h.size + t.size - n.toNat)), true) else (⟨#[]⟩, false)) := by
  have s1 : wrap64 ((h.size : Int) + (t.size : Int)) = ((h.size + t.size : Nat) : Int) := by rw [w64 (by omega) (by omega)]; omega
  have s2 : wrap64 (((h.size + t.size : Nat) : Int) - n) = ((h.size + t.size - n.toNat : Nat) : Int) := by rw [w64 (by omega) (by omega)]; omega
  have s3 : wrap64 ((h.size : Int) - ((h.size + t.size - n.toNat : Nat) : Int)) = ((n.toNat - t.size : Nat) : Int) := by rw [w64 (by omega) (by omega)]; omega
  unfold weld_short.f
  rw [s1, s2, s3, if_pos (by omega), if_pos (by omega), if_pos (by omega), if_pos (by omega)]
  simp only [Int.toNat_natCast, tl_eq]
  rw [ex_tail, bo_extract, List.drop_zero, Nat.sub_zero]
  by_cases hc : (bytesOf h).drop (n.toNat - t.size) = (bytesOf t).take (h.size + t.size - n.toNat)
  · rw [if_pos hc, if_pos hc, if_pos (by rw [ByteArray.size_extract]; omega)]
    congr 2
    apply bo_inj
    rw [bo_append, ex_tail, bo_str _ ((bo_byt h).append ((bo_byt t).drop _))]
  · rw [if_neg hc, if_neg hc]
theorem vldB_in (n r u e : Int) (H T : List Int) (hn : 0 ≤ n ∧ n ≤ 268435456) (hh : (H.length : Int) = min 3 n) (ht : (T.length : Int) = min 3 n) : vldB n r u e H T =
    if n ≤ 6 then decide (H.drop (n.toNat - T.length) = T.take (H.length + T.length - n.toNat)) && decide (r = rn (H ++ T.drop (H.length + T.length - n.toNat)) ∧ u = rn (H ++ T.drop (H.length + T.length - n.toNat)) + fr (H ++ T.drop (H.length + T.length - n.toNat)) ∧ e = en 0 (H ++ T.drop (H.length + T.length - n.toNat)))
    else decide (0 ≤ r ∧ r ≤ n ∧ r ≤ u ∧ u ≤ 2 * r ∧ r - (u - r) ≤ n - 4 * (u - r) ∧ n - 4 * (u - r) ≤ 3 * (r - (u - r)) ∧ 0 ≤ e ∧ e ≤ r) := by
  unfold vldB
  rw [if_neg (by omega)]
theorem weldValid_j0 (k : Nat) (n r u e : Int) (h t : ByteArray) (hn : 0 ≤ n ∧ n ≤ 268435456) (hh : (h.size : Int) = min 3 n) (ht : (t.size : Int) = min 3 n) (hr : -9223372036854775808 ≤ r ∧ r ≤ 9223372036854775807) (hu : -9223372036854775808 ≤ u ∧ u ≤ 9223372036854775807) :
    weld_Valid.j0 (k + 1) false n r u e h t n r u e = some (vldB n r u e (bytesOf h) (bytesOf t)) := by
  rw [vldB_in n r u e (bytesOf h) (bytesOf t) hn (by rw [bytesOf_length]; exact hh) (by rw [bytesOf_length]; exact ht)]
  simp only [weld_Valid.j0, Bool.false_eq_true, if_false]
  by_cases h6 : n ≤ 6
  · rw [if_pos h6, if_pos h6, weldShort_eq n r u e h t ⟨hn.1, h6⟩ hh ht]
    simp only [Option.bind_some, bytesOf_length]
    by_cases hc : (bytesOf h).drop (n.toNat - t.size) = (bytesOf t).take (h.size + t.size - n.toNat)
    · have hs := ends_six n.toNat (by omega) (bytesOf h) (bytesOf t) (by rw [bytesOf_length]; omega) (by rw [bytesOf_length]; omega) (by rw [bytesOf_length, bytesOf_length]; exact hc)
      rw [bytesOf_length, bytesOf_length] at hs
      have hB : Byt (bytesOf h ++ (bytesOf t).drop (h.size + t.size - n.toNat)) := (bo_byt h).append ((bo_byt t).drop _)
      simp only [if_pos hc, if_true]
      generalize bytesOf h ++ (bytesOf t).drop (h.size + t.size - n.toNat) = B at *
      rw [if_pos (by rw [sz_str]; omega), bo_str B hB, weldOf_eq B hB (by omega)]
      simp only [Option.bind_some, mOf, tl_beq, bo_str _ (hB.take 3), bo_str _ (hB.drop _)]
      rw [hs.1, hs.2.1, hs.2.2]
      congr 1
      have hnn : ((n.toNat : Nat) : Int) = n := by omega
      rw [hnn]
      rw [Bool.eq_iff_iff]
      simp
      exact fun _ _ _ => hc
    · simp only [if_neg hc, Bool.false_eq_true, if_false]
      rw [decide_eq_false hc, Bool.false_and]
  · rw [if_neg h6, if_neg h6]
    by_cases c1 : r ≥ 0
    · rw [if_pos c1]
      by_cases c2 : r ≤ n
      · rw [if_pos c2]
        by_cases c3 : u ≥ 0
        · rw [if_pos c3]
          by_cases c4 : u ≤ n
          · rw [if_pos c4, w64 (n := u - r) (by omega) (by omega), w64 (n := r - (u - r)) (by omega) (by omega), w64 (n := 4 * (u - r)) (by omega) (by omega), w64 (n := n - 4 * (u - r)) (by omega) (by omega), w64 (n := 3 * (r - (u - r))) (by omega) (by omega)]
            (repeat' split) <;> (congr 1; rw [Bool.eq_iff_iff]; simp only [decide_eq_true_eq, Bool.false_eq_true, false_iff]; omega)
          · rw [if_neg c4]; congr 1; symm; rw [decide_eq_false_iff_not]; omega
        · rw [if_neg c3]; congr 1; symm; rw [decide_eq_false_iff_not]; omega
      · rw [if_neg c2]; congr 1; symm; rw [decide_eq_false_iff_not]; omega
    · rw [if_neg c1]; congr 1; symm; rw [decide_eq_false_iff_not]; omega
theorem weldValid_eq (k : Nat) (n r u e : Int) (h t : ByteArray) (hr : -9223372036854775808 ≤ r ∧ r ≤ 9223372036854775807) (hu : -9223372036854775808 ≤ u ∧ u ≤ 9223372036854775807) :
    weld_Valid.f (k + 1) n r u e h t = some (vldB n r u e (bytesOf h) (bytesOf t)) := by
  have hF : ∀ x y z w, weld_Valid.j0 (k + 1) true n r u e h t x y z w = some false := fun x y z w => by simp [weld_Valid.j0]
  have hV : (n < 0 ∨ n > 268435456 ∨ (h.size : Int) ≠ min 3 n ∨ (t.size : Int) ≠ min 3 n) → vldB n r u e (bytesOf h) (bytesOf t) = false := fun c => by
    unfold vldB; rw [bytesOf_length, bytesOf_length, if_pos c]
  have hm : mn 3 n = min 3 n := by unfold mn; split <;> omega
  unfold weld_Valid.f
  rw [hm]
  by_cases h1 : n < 0
  · rw [if_pos h1, hF, hV (by omega)]
  · rw [if_neg h1]
    by_cases h2 : n > 268435456
    · rw [if_pos h2, hF, hV (by omega)]
    · rw [if_neg h2]
      by_cases h3 : (h.size : Int) = min 3 n
      · rw [if_pos h3]
        by_cases h4 : (t.size : Int) = min 3 n
        · rw [show ((t.size : Int) != min 3 n) = false by simp [h4]]
          exact weldValid_j0 k n r u e h t (by omega) h3 h4 hr hu
        · rw [show ((t.size : Int) != min 3 n) = true by simp [h4], hF, hV (by omega)]
      · rw [if_neg h3, hF, hV (by omega)]
end Go.Proofs.YtaojbcplmdjfnaaDoor.PuMs

namespace Go.Proofs.YtaojbcplmdjfnaaDoor.Ev
open Go.RowKit Go.Proofs.YtaojbcplmdjfnaaDoor.Pr Go.Proofs.YtaojbcplmdjfnaaDoor.Math Go.Proofs.YtaojbcplmdjfnaaDoorW.PrintWords Go.Proofs.YtaojbcplmdjfnaaDoorW.PrintLast
set_option linter.unusedVariables false
set_option linter.unusedSimpArgs false
theorem o_Class (b : Int) (h : 0 ≤ b ∧ b ≤ 255) : octet_Class.f b = some (cls b) := by unfold octet_Class.f; rw [if_pos h]; rfl
theorem o_Need (b : Int) (h : 0 ≤ b ∧ b ≤ 255) : octet_Need.f b = some (need b) := by unfold octet_Need.f; rw [if_pos h]; rfl
theorem o_second (a : Int) (h : 0 ≤ a ∧ a ≤ 255) : octet_second.f a = some (if a = 224 then (160, 191) else if a = 237 then (128, 159) else if a = 240 then (144, 191) else if a = 244 then (128, 143) else if need a > 1 then (128, 191) else (1, 0)) := by
  unfold octet_second.f
  rw [o_Need a h]
  simp only [Option.bind_some]
  (repeat' split) <;> rfl
theorem o_Second (a b : Int) (h : 0 ≤ a ∧ a ≤ 255) : octet_Second.f a b = some (sec a b) := by
  unfold octet_Second.f
  rw [o_second a h]
  simp only [Option.bind_some]
  unfold sec
  (repeat' split) <;> simp_all <;> omega
theorem o_Whole (k : Nat) (l : List Int) (h : Byt l) : octet_Whole.f (k + 9) l = some (whole l) := by
  unfold octet_Whole.f
  match l, h with
  | [], _ => simp [octet_Whole.j0, whole]
  | [x0], h =>
    have b0 := h x0 (by simp)
    simp only [rd, List.length_cons, List.length_nil, Int.toNat_zero, List.getD_cons_zero]
    rw [if_neg (by simp), if_pos (by simp), o_Need x0 b0]
    simp only [Option.bind_some, octet_Whole.j0, drop1, whole]
    by_cases hn : need x0 = 1
    · simp [hn, octet_Whole.l0]
    · simp [hn]
  | [x0, x1], h =>
    have b0 := h x0 (by simp)
    have b1 := h x1 (by simp)
    simp only [rd, List.length_cons, List.length_nil, Int.toNat_zero, List.getD_cons_zero]
    rw [if_neg (by simp), if_pos (by simp), o_Need x0 b0]
    simp only [Option.bind_some, octet_Whole.j0, drop1, whole]
    by_cases hn : need x0 = 2
    · have st := @sec_tail x0 x1
      simp [hn, octet_Whole.l0, rd, o_Second x0 x1 b0, o_Class x1 b1, cls_two x1 b1.1 b1.2, wrap64_in', tl]
      (repeat' split) <;> simp_all
    · simp [hn]
  | [x0, x1, x2], h =>
    have b0 := h x0 (by simp)
    have b1 := h x1 (by simp)
    have b2 := h x2 (by simp)
    simp only [rd, List.length_cons, List.length_nil, Int.toNat_zero, List.getD_cons_zero]
    rw [if_neg (by simp), if_pos (by simp), o_Need x0 b0]
    simp only [Option.bind_some, octet_Whole.j0, drop1, whole]
    by_cases hn : need x0 = 3
    · have st := @sec_tail x0 x1
      simp [hn, octet_Whole.l0, rd, o_Second x0 x1 b0, o_Class x1 b1, cls_two x1 b1.1 b1.2, o_Class x2 b2, cls_two x2 b2.1 b2.2, wrap64_in', tl]
      (repeat' split) <;> simp_all
    · simp [hn]
  | [x0, x1, x2, x3], h =>
    have b0 := h x0 (by simp)
    have b1 := h x1 (by simp)
    have b2 := h x2 (by simp)
    have b3 := h x3 (by simp)
    simp only [rd, List.length_cons, List.length_nil, Int.toNat_zero, List.getD_cons_zero]
    rw [if_neg (by simp), if_pos (by simp), o_Need x0 b0]
    simp only [Option.bind_some, octet_Whole.j0, drop1, whole]
    by_cases hn : need x0 = 4
    · have st := @sec_tail x0 x1
      simp [hn, octet_Whole.l0, rd, o_Second x0 x1 b0, o_Class x1 b1, cls_two x1 b1.1 b1.2, o_Class x2 b2, cls_two x2 b2.1 b2.2, o_Class x3 b3, cls_two x3 b3.1 b3.2, wrap64_in', tl]
      cases hs : sec x0 x1 <;> by_cases h2 : 128 ≤ x2 <;> by_cases h2' : x2 ≤ 191 <;> by_cases h3 : 128 ≤ x3 <;> by_cases h3' : x3 ≤ 191 <;> simp_all <;> split <;> simp_all <;> omega
    · simp [hn]
  | x0 :: x1 :: x2 :: x3 :: x4 :: r, h =>
    have b0 := h x0 (by simp)
    have hl := need_le x0
    simp only [rd, List.length_cons, Int.toNat_zero, List.getD_cons_zero]
    rw [if_neg (by omega), if_pos (by omega), o_Need x0 b0]
    simp only [Option.bind_some, octet_Whole.j0, whole]
    rw [if_pos (by rw [bne_iff_ne]; omega)]
theorem u8_and127 {x : Int} (h₀ : 0 ≤ x) (h₁ : x < 256) : bits .and .u8 x 127 = x % 128 := bits_mask .u8 8 (by decide) wraps_u8 7 (by decide) x h₀ h₁
theorem head_eq {x m n : Int} (h : bits .and .u8 x m = n) (h0 : 0 ≤ n) (h1 : n < 256) : headV x m = n := by unfold headV; rw [h]; exact wrap32_in' (by omega) (by omega)
theorem step_eq {z c : Int} (h0 : 0 ≤ z) (h1 : z < 32768) (hc : 0 ≤ c ∧ c ≤ 255) : stepV z c = z * 64 + c % 64 := by
  unfold stepV
  rw [u8_and63 _ hc.1 (by omega), wrap32_in' (by omega) (by omega), wrap32_in' (by omega) (by omega), i32_or6 _ _ (by omega) (by omega) (by omega) (by omega) (by omega)]
theorem valL_eq (l : List Int) (h : Byt l) (hw : whole l = true) : valL l = some (num l) := by
  match l, h, hw with
  | [], _, hw => simp [whole] at hw
  | [x0], h, hw =>
    have b0 := h x0 (by simp)
    have hn : need x0 = 1 := by simpa [whole] using hw
    have : x0 < 128 := by unfold need at hn; (repeat' split at hn) <;> omega
    simp only [valL, num]
    rw [head_eq (u8_and127 b0.1 (by omega)) (by omega) (by omega)]
    congr 1
    omega
  | [x0, x1], h, hw =>
    have b0 := h x0 (by simp)
    have b1 := h x1 (by simp)
    simp only [valL, num]
    rw [head_eq (u8_and31 _ b0.1 (by omega)) (by omega) (by omega), step_eq (by omega) (by omega) b1]
  | [x0, x1, x2], h, hw =>
    have b0 := h x0 (by simp)
    have b1 := h x1 (by simp)
    have b2 := h x2 (by simp)
    simp only [valL, num]
    rw [head_eq (u8_and15 _ b0.1 (by omega)) (by omega) (by omega), step_eq (by omega) (by omega) b1, step_eq (by omega) (by omega) b2]
  | [x0, x1, x2, x3], h, hw =>
    have b0 := h x0 (by simp)
    have b1 := h x1 (by simp)
    have b2 := h x2 (by simp)
    have b3 := h x3 (by simp)
    simp only [valL, num]
    rw [head_eq (u8_and7 _ b0.1 (by omega)) (by omega) (by omega), step_eq (by omega) (by omega) b1, step_eq (by omega) (by omega) b2, step_eq (by omega) (by omega) b3]
  | _ :: _ :: _ :: _ :: _ :: _, _, hw => simp [whole] at hw
theorem o_Value (k : Nat) (l : List Int) (h : Byt l) : octet_Value.f (k + 9) l = some (val l) := by
  unfold octet_Value.f val
  rw [o_Whole k l h]
  simp only [Option.bind_some]
  split
  · rename_i hw
    exact valL_eq l h hw
  · rfl
theorem num_range (l : List Int) (h : Byt l) (hw : whole l = true) : 0 ≤ num l ∧ num l < 2097152 := by
  match l, h, hw with
  | [], _, hw => simp [whole] at hw
  | [x0], h, hw => have b0 := h x0 (by simp); simp only [num]; omega
  | [x0, x1], h, hw => simp only [num]; omega
  | [x0, x1, x2], h, hw => simp only [num]; omega
  | [x0, x1, x2, x3], h, hw => simp only [num]; omega
  | _ :: _ :: _ :: _ :: _ :: _, _, hw => simp [whole] at hw
theorem val_range (l : List Int) (h : Byt l) : -1 ≤ val l ∧ val l < 2097152 := by
  unfold val
  split
  · rename_i hw
    have := num_range l h hw
    omega
  · omega
theorem whole_iff (l : List Int) (h : Byt l) : whole l = true ↔ l ≠ [] ∧ lg l = l.length := by
  match l, h with
  | [], _ => simp [whole]
  | [x0], h =>
    have b0 := h x0 (by simp)
    simp only [whole, lg, List.length_cons, List.length_nil, decide_eq_true_eq, ne_eq, reduceCtorEq, not_false_eq_true, true_and]
    have := lgT_cases x0 (List.getD [] 0 (-1)) (List.getD [] 1 (-1)) (List.getD [] 2 (-1))
    constructor
    · intro hn
      unfold lgT; rw [if_pos (by unfold need at hn; (repeat' split at hn) <;> omega)]
    · intro hn
      rw [need_1 (by omega)]
  | [x0, x1], h =>
    simp only [whole, lg, List.length_cons, List.length_nil, Bool.and_eq_true, decide_eq_true_eq, ne_eq, reduceCtorEq, not_false_eq_true, true_and, List.getD_cons_zero, List.getD_cons_succ, sec_iff]
    have := lgT_cases x0 x1 (List.getD [] 0 (-1)) (List.getD [] 1 (-1))
    constructor
    · rintro ⟨hn, h1, h2⟩
      have hx : 194 ≤ x0 ∧ x0 < 224 := by unfold need at hn; (repeat' split at hn) <;> omega
      unfold lgT; rw [if_neg (by omega), if_pos (by omega)]
    · intro hn
      rw [need_2 (by omega) (by omega)]
      omega
  | [x0, x1, x2], h =>
    simp only [whole, lg, List.length_cons, List.length_nil, Bool.and_eq_true, decide_eq_true_eq, ne_eq, reduceCtorEq, not_false_eq_true, true_and, List.getD_cons_zero, List.getD_cons_succ, sec_iff, tl_iff]
    constructor
    · rintro ⟨hn, ⟨h1, h2⟩, h3⟩
      have hx : 224 ≤ x0 ∧ x0 < 240 := by unfold need at hn; (repeat' split at hn) <;> omega
      unfold lgT; rw [if_neg (by omega), if_neg (by omega), if_pos (by omega)]
    · intro hn
      unfold lgT at hn
      split at hn
      · omega
      · split at hn
        · omega
        · split at hn
          · rw [need_3 (by omega) (by omega)]; omega
          · split at hn <;> omega
  | [x0, x1, x2, x3], h =>
    simp only [whole, lg, List.length_cons, List.length_nil, Bool.and_eq_true, decide_eq_true_eq, ne_eq, reduceCtorEq, not_false_eq_true, true_and, List.getD_cons_zero, List.getD_cons_succ, sec_iff, tl_iff]
    constructor
    · rintro ⟨hn, ⟨h1, h2⟩, h3, h4⟩
      have hx : 240 ≤ x0 ∧ x0 < 245 := by unfold need at hn; (repeat' split at hn) <;> omega
      unfold lgT; rw [if_neg (by omega), if_neg (by omega), if_neg (by omega), if_pos (by omega)]
    · intro hn
      unfold lgT at hn
      split at hn
      · omega
      · split at hn
        · omega
        · split at hn
          · omega
          · split at hn
            · rw [need_4 (by omega) (by omega)]; omega
            · omega
  | x0 :: x1 :: x2 :: x3 :: x4 :: r, _ =>
    simp only [whole, Bool.false_eq_true, false_iff]
    rintro ⟨_, hn⟩
    have := lg_le (x0 :: x1 :: x2 :: x3 :: x4 :: r)
    rw [hn] at this
    simp at this
theorem val_lg (l : List Int) (h : Byt l) (hn : l ≠ []) : (0 ≤ val l ↔ lg l = l.length) ∧ (lg l = l.length → (val l > 65535 ↔ lg l = 4)) := by
  have hw := whole_iff l h
  unfold val
  by_cases hwl : whole l = true
  · rw [if_pos hwl]
    have hl := (hw.1 hwl).2
    obtain ⟨x, t, rfl⟩ : ∃ x t, l = x :: t := by cases l with | nil => exact absurd rfl hn | cons x t => exact ⟨x, t, rfl⟩
    have hr := ru_facts x t (h x (by simp)).1
    have e : ru (x :: t) = num (x :: t) := by
      unfold ru
      rw [if_neg (by rw [hl]; simp), hl, List.take_length]
    rw [e] at hr
    exact ⟨⟨fun _ => hl, fun _ => hr.2.2.2.1⟩, fun _ => hr.2.2.1⟩
  · rw [if_neg hwl]
    have hne : ¬ lg l = l.length := fun c => hwl (hw.2 ⟨hn, c⟩)
    exact ⟨⟨fun c => by omega, fun c => absurd c hne⟩, fun c => absurd c hne⟩
end Go.Proofs.YtaojbcplmdjfnaaDoor.Ev

namespace Go.Proofs.YtaojbcplmdjfnaaDoor.Pr
open Go.RowKit Go.Proofs.YtaojbcplmdjfnaaDoorW.PrintWords Go.Proofs.YtaojbcplmdjfnaaDoorW.PrintLast Go.Proofs.YtaojbcplmdjfnaaDoorW.PrintMore
attribute [local go_sem] max2_int min2_int max_two min_two max_three min_three max_four min_four   -- for this text's walks alone
set_option linter.unusedVariables false
set_option linter.unusedSimpArgs false
mutual
def galleyref05_seam.l0 : Nat → Int → Int → Int → Int → Int → ByteArray → ByteArray → Int → Int → Int → Int → ByteArray → ByteArray → Int → Int → Int → Int → Option (Int × Int × Int × Int)
 | 0, _, _, _, _, _, _, _, _, _, _, _, _, _, _, _, _, _ => none
 | k + 1, x6, x307000, x307001, x307002, x307003, x307004, x307005, x308000, x308001, x308002, x308003, x308004, x308005, x310000, x310001, x310002, x310003 => if x6 ≤ (x307005.size : Int) then (galleyref05_seam.l1 k x6 1 x307000 x307001 x307002 x307003 x307004 x307005 x308000 x308001 x308002 x308003 x308004 x308005 x310000 x310001 x310002 x310003) else (if (x307005.size : Int) > 0 then (if (x308004.size : Int) > 0 then (if 0 ≤ (wrap64 ((x307005.size : Int) - 1)) then (if (wrap64 ((x307005.size : Int) - 1)) < (x307005.size : Int) then (if (bt x307005 (wrap64 ((x307005.size : Int) - 1))) = 13 then (if 0 < (x308004.size : Int) then (if (bt x308004 0) = 10 then (some (x310000, x310001, x310002, 1)) else (some (x310000, x310001, x310002, x310003))) else (none)) else (some (x310000, x310001, x310002, x310003))) else (none)) else (none)) else (some (x310000, x310001, x310002, x310003))) else (some (x310000, x310001, x310002, x310003)))
def galleyref05_seam.l1 : Nat → Int → Int → Int → Int → Int → Int → ByteArray → ByteArray → Int → Int → Int → Int → ByteArray → ByteArray → Int → Int → Int → Int → Option (Int × Int × Int × Int)
 | 0, _, _, _, _, _, _, _, _, _, _, _, _, _, _, _, _, _, _ => none
 | k + 1, x6, x7, x307000, x307001, x307002, x307003, x307004, x307005, x308000, x308001, x308002, x308003, x308004, x308005, x310000, x310001, x310002, x310003 => if x7 ≤ (x308004.size : Int) then (if 0 ≤ (wrap64 ((x307005.size : Int) - x6)) then (if (wrap64 ((x307005.size : Int) - x6)) ≤ (x307005.size : Int) then (if 0 ≤ x7 then (if (x307005.extract ((wrap64 ((x307005.size : Int) - x6)) : Int).toNat x307005.size).size + (x308004.extract 0 (x7 : Int).toNat).size ≤ 9223372036854775807 then (if ((x307005.extract ((wrap64 ((x307005.size : Int) - x6)) : Int).toNat x307005.size) ++ (x308004.extract 0 (x7 : Int).toNat)).size ≤ 9223372036854775807 then ((some (bytesOf ((x307005.extract ((wrap64 ((x307005.size : Int) - x6)) : Int).toNat x307005.size) ++ (x308004.extract 0 (x7 : Int).toNat)) : List Int)).bind fun y310 => ((galleyref02_Long.f k y310 0).bind fun t313 => (if t313 = (wrap64 (x6 + x7)) then ((galleyref02_Of.f k y310 0).bind fun bt314 => ((galleyref05_units.f bt314.1 bt314.2.1 bt314.2.2).bind fun t317 => (galleyref05_seam.l1 k x6 (wrap64 (x7 + 1)) x307000 x307001 x307002 x307003 x307004 x307005 x308000 x308001 x308002 x308003 x308004 x308005 x310000 (wrap64 ((wrap64 (x6 + x7)) - 1)) (wrap64 ((wrap64 (x6 + x7)) - t317)) x310003))) else (galleyref05_seam.l1 k x6 (wrap64 (x7 + 1)) x307000 x307001 x307002 x307003 x307004 x307005 x308000 x308001 x308002 x308003 x308004 x308005 x310000 x310001 x310002 x310003)))) else (none)) else (none)) else (none)) else (none)) else (none)) else (galleyref05_seam.l0 k (wrap64 (x6 + 1)) x307000 x307001 x307002 x307003 x307004 x307005 x308000 x308001 x308002 x308003 x308004 x308005 x310000 x310001 x310002 x310003)
end
def galleyref05_seam.f (k : Nat) (a0_0 : Int) (a0_1 : Int) (a0_2 : Int) (a0_3 : Int) (a0_4 : ByteArray) (a0_5 : ByteArray) (a1_0 : Int) (a1_1 : Int) (a1_2 : Int) (a1_3 : Int) (a1_4 : ByteArray) (a1_5 : ByteArray) : Option (Int × Int × Int × Int) := galleyref05_seam.l0 k 1 a0_0 a0_1 a0_2 a0_3 a0_4 a0_5 a1_0 a1_1 a1_2 a1_3 a1_4 a1_5 0 0 0 0
end Go.Proofs.YtaojbcplmdjfnaaDoor.Pr

namespace Go.Proofs.YtaojbcplmdjfnaaDoor.Pr
open Go.RowKit Go.Proofs.YtaojbcplmdjfnaaDoorW.PrintWords Go.Proofs.YtaojbcplmdjfnaaDoorW.PrintLast Go.Proofs.YtaojbcplmdjfnaaDoorW.PrintMore
attribute [local go_sem] max2_int min2_int max_two min_two max_three min_three max_four min_four   -- for this text's walks alone
set_option linter.unusedVariables false
set_option linter.unusedSimpArgs false
mutual
def galleyref05_Join.j0 : Nat → Bool → Int → Int → Int → Int → ByteArray → ByteArray → Int → Int → Int → Int → ByteArray → ByteArray → Option (Int × Int × Int × Int × ByteArray × ByteArray × Int)
 | 0, _, _, _, _, _, _, _, _, _, _, _, _, _ => none
 | k + 1, x15, x319000, x319001, x319002, x319003, x319004, x319005, x320000, x320001, x320002, x320003, x320004, x320005 => if x15 = true then (some (0, 0, 0, 0, (⟨#[]⟩ : ByteArray), (⟨#[]⟩ : ByteArray), 50)) else (if (wrap64 (x319000 + x320000)) > 268435456 then (some (0, 0, 0, 0, (⟨#[]⟩ : ByteArray), (⟨#[]⟩ : ByteArray), 5)) else ((galleyref05_seam.f k x319000 x319001 x319002 x319003 x319004 x319005 x320000 x320001 x320002 x320003 x320004 x320005).bind fun bt323 => (if (x319004.size : Int) < 3 then (if x319004.size + x320004.size ≤ 9223372036854775807 then ((galleyref05_head.f (x319004 ++ x320004)).bind fun t329 => (galleyref05_Join.j1 k x319000 x319001 x319002 x319003 x319004 x319005 x320000 x320001 x320002 x320003 x320004 x320005 bt323.1 bt323.2.1 bt323.2.2.1 bt323.2.2.2 0 0 0 0 t329 x320005)) else (none)) else (galleyref05_Join.j1 k x319000 x319001 x319002 x319003 x319004 x319005 x320000 x320001 x320002 x320003 x320004 x320005 bt323.1 bt323.2.1 bt323.2.2.1 bt323.2.2.2 0 0 0 0 x319004 x320005))))
def galleyref05_Join.j1 : Nat → Int → Int → Int → Int → ByteArray → ByteArray → Int → Int → Int → Int → ByteArray → ByteArray → Int → Int → Int → Int → Int → Int → Int → Int → ByteArray → ByteArray → Option (Int × Int × Int × Int × ByteArray × ByteArray × Int)
 | 0, _, _, _, _, _, _, _, _, _, _, _, _, _, _, _, _, _, _, _, _, _, _ => none
 | k + 1, x319000, x319001, x319002, x319003, x319004, x319005, x320000, x320001, x320002, x320003, x320004, x320005, x328000, x328001, x328002, x328003, x329000, x329001, x329002, x329003, x329004, x329005 => if (x320005.size : Int) < 3 then (if x319005.size + x320005.size ≤ 9223372036854775807 then ((galleyref05_tail.f (x319005 ++ x320005)).bind fun t330 => ((galleyref05_Valid.f k (wrap64 (x319000 + x320000)) (wrap64 ((wrap64 (x319001 + x320001)) - x328001)) (wrap64 ((wrap64 (x319002 + x320002)) - x328002)) (wrap64 ((wrap64 (x319003 + x320003)) - x328003)) x329004 t330).bind fun t331 => (if t331 = true then (some (wrap64 (x319000 + x320000), wrap64 ((wrap64 (x319001 + x320001)) - x328001), wrap64 ((wrap64 (x319002 + x320002)) - x328002), wrap64 ((wrap64 (x319003 + x320003)) - x328003), x329004, t330, 0)) else (some (0, 0, 0, 0, (⟨#[]⟩ : ByteArray), (⟨#[]⟩ : ByteArray), 50))))) else (none)) else ((galleyref05_Valid.f k (wrap64 (x319000 + x320000)) (wrap64 ((wrap64 (x319001 + x320001)) - x328001)) (wrap64 ((wrap64 (x319002 + x320002)) - x328002)) (wrap64 ((wrap64 (x319003 + x320003)) - x328003)) x329004 x329005).bind fun t332 => (if t332 = true then (some (wrap64 (x319000 + x320000), wrap64 ((wrap64 (x319001 + x320001)) - x328001), wrap64 ((wrap64 (x319002 + x320002)) - x328002), wrap64 ((wrap64 (x319003 + x320003)) - x328003), x329004, x329005, 0)) else (some (0, 0, 0, 0, (⟨#[]⟩ : ByteArray), (⟨#[]⟩ : ByteArray), 50))))
end
def galleyref05_Join.f (k : Nat) (a0_0 : Int) (a0_1 : Int) (a0_2 : Int) (a0_3 : Int) (a0_4 : ByteArray) (a0_5 : ByteArray) (a1_0 : Int) (a1_1 : Int) (a1_2 : Int) (a1_3 : Int) (a1_4 : ByteArray) (a1_5 : ByteArray) : Option (Int × Int × Int × Int × ByteArray × ByteArray × Int) := (galleyref05_Valid.f k a0_0 a0_1 a0_2 a0_3 a0_4 a0_5).bind fun t321 => (if t321 = true then ((galleyref05_Valid.f k a1_0 a1_1 a1_2 a1_3 a1_4 a1_5).bind fun t322 => (galleyref05_Join.j0 k (!t322) a0_0 a0_1 a0_2 a0_3 a0_4 a0_5 a1_0 a1_1 a1_2 a1_3 a1_4 a1_5)) else (galleyref05_Join.j0 k true a0_0 a0_1 a0_2 a0_3 a0_4 a0_5 a1_0 a1_1 a1_2 a1_3 a1_4 a1_5))
end Go.Proofs.YtaojbcplmdjfnaaDoor.Pr

namespace Go.Proofs.YtaojbcplmdjfnaaDoor.Pr
open Go.RowKit Go.Proofs.YtaojbcplmdjfnaaDoorW.PrintWords Go.Proofs.YtaojbcplmdjfnaaDoorW.PrintLast Go.Proofs.YtaojbcplmdjfnaaDoorW.PrintMore
attribute [local go_sem] max2_int min2_int max_two min_two max_three min_three max_four min_four   -- for this text's walks alone
set_option linter.unusedVariables false
set_option linter.unusedSimpArgs false
attribute [local go_sem high] eqA24 eqA26
def galleyref05_Seam.f (k : Nat) (a0_0 : Int) (a0_1 : Int) (a0_2 : Int) (a0_3 : Int) (a0_4 : ByteArray) (a0_5 : ByteArray) (a1_0 : Int) (a1_1 : Int) (a1_2 : Int) (a1_3 : Int) (a1_4 : ByteArray) (a1_5 : ByteArray) : Option (Int × Int × Int × Int × Int) := (galleyref05_Join.f k a0_0 a0_1 a0_2 a0_3 a0_4 a0_5 a1_0 a1_1 a1_2 a1_3 a1_4 a1_5).bind fun bt336 => (if bt336.2.2.2.2.2.2 = 0 then ((galleyref05_seam.f k a0_0 a0_1 a0_2 a0_3 a0_4 a0_5 a1_0 a1_1 a1_2 a1_3 a1_4 a1_5).bind fun bt344 => (some (bt344.1, bt344.2.1, bt344.2.2.1, bt344.2.2.2, 0))) else (some (0, 0, 0, 0, bt336.2.2.2.2.2.2)))
def galleylaw05_WeldAny.j0 : Nat → Bool → Int → Int → Int → Int → ByteArray → ByteArray → Int → Int → Int → Int → ByteArray → ByteArray → Option (Bool)
 | 0, _, _, _, _, _, _, _, _, _, _, _, _, _ => none
 | k + 1, x26, x349000, x349001, x349002, x349003, x349004, x349005, x350000, x350001, x350002, x350003, x350004, x350005 => if x26 = true then (none) else ((weld_Join.f k x349000 x349001 x349002 x349003 x349004 x349005 x350000 x350001 x350002 x350003 x350004 x350005).bind fun bt355 => ((galleyref05_Join.f k x349000 x349001 x349002 x349003 x349004 x349005 x350000 x350001 x350002 x350003 x350004 x350005).bind fun bt363 => ((weld_Seam.f k x349000 x349001 x349002 x349003 x349004 x349005 x350000 x350001 x350002 x350003 x350004 x350005).bind fun bt371 => ((galleyref05_Seam.f k x349000 x349001 x349002 x349003 x349004 x349005 x350000 x350001 x350002 x350003 x350004 x350005).bind fun bt377 => (if ((!(bt355.1 == bt363.1) || (!(bt355.2.1 == bt363.2.1) || (!(bt355.2.2.1 == bt363.2.2.1) || (!(bt355.2.2.2.1 == bt363.2.2.2.1))))) || (!(bt355.2.2.2.2.1.toList == bt363.2.2.2.2.1.toList) || (!(bt355.2.2.2.2.2.1.toList == bt363.2.2.2.2.2.1.toList)))) = true then (none) else (if bt355.2.2.2.2.2.2 = bt363.2.2.2.2.2.2 then (if (!(bt371.1 == bt377.1) || (!(bt371.2.1 == bt377.2.1) || (!(bt371.2.2.1 == bt377.2.2.1) || (!(bt371.2.2.2.1 == bt377.2.2.2.1))))) = true then (none) else (if bt371.2.2.2.2 = bt377.2.2.2.2 then (if bt355.2.2.2.2.2.2 = 0 then ((weld_Valid.f k bt355.1 bt355.2.1 bt355.2.2.1 bt355.2.2.2.1 bt355.2.2.2.2.1 bt355.2.2.2.2.2.1).bind fun t383 => (if t383 = true then (if bt371.1 = 0 then (if bt371.2.1 ≥ 0 then (if bt371.2.1 ≤ 3 then (if bt371.2.2.1 ≥ 0 then (if bt371.2.2.1 ≤ 2 then (if bt371.2.2.2.1 ≥ 0 then (some (decide (bt371.2.2.2.1 ≤ 1))) else (none)) else (none)) else (none)) else (none)) else (none)) else (none)) else (none))) else (some true)) else (none))) else (none)))))))
def galleylaw05_WeldAny.f (k : Nat) (a0_0 : Int) (a0_1 : Int) (a0_2 : Int) (a0_3 : Int) (a0_4 : ByteArray) (a0_5 : ByteArray) (a1_0 : Int) (a1_1 : Int) (a1_2 : Int) (a1_3 : Int) (a1_4 : ByteArray) (a1_5 : ByteArray) : Option (Bool) := (galleylaw05_fixed.f).bind fun t350 => (if t350 = true then ((weld_Valid.f k a0_0 a0_1 a0_2 a0_3 a0_4 a0_5).bind fun t351 => ((galleyref05_Valid.f k a0_0 a0_1 a0_2 a0_3 a0_4 a0_5).bind fun t352 => (if (t351 != t352) = true then (galleylaw05_WeldAny.j0 k true a0_0 a0_1 a0_2 a0_3 a0_4 a0_5 a1_0 a1_1 a1_2 a1_3 a1_4 a1_5) else ((weld_Valid.f k a1_0 a1_1 a1_2 a1_3 a1_4 a1_5).bind fun t353 => ((galleyref05_Valid.f k a1_0 a1_1 a1_2 a1_3 a1_4 a1_5).bind fun t354 => (galleylaw05_WeldAny.j0 k (t353 != t354) a0_0 a0_1 a0_2 a0_3 a0_4 a0_5 a1_0 a1_1 a1_2 a1_3 a1_4 a1_5)))))) else (none))
end Go.Proofs.YtaojbcplmdjfnaaDoor.Pr

namespace Go.Proofs.YtaojbcplmdjfnaaDoor.PuSm
open Go.RowKit Go.Proofs.YtaojbcplmdjfnaaDoor.Pr Go.Proofs.YtaojbcplmdjfnaaDoor.Math Go.Proofs.YtaojbcplmdjfnaaDoor.Ev Go.Proofs.YtaojbcplmdjfnaaDoor.PuSz Go.Proofs.YtaojbcplmdjfnaaDoor.PuMs Go.Proofs.YtaojbcplmdjfnaaDoorW.PrintWords Go.Proofs.YtaojbcplmdjfnaaDoorW.PrintLast Go.Proofs.YtaojbcplmdjfnaaDoorW.PrintMore
set_option linter.unusedVariables false
set_option linter.unusedSimpArgs false
def uL (n : Nat) : Int := if n = 4 then 2 else 1
theorem uL_range (n : Nat) : 1 ≤ uL n ∧ uL n ≤ 2 := by unfold uL; split <;> omega
def swI (k L : Nat) (p : Int × Int) : Int × Int := if k < L then ((L : Int) - 1, (L : Int) - uL L) else p
theorem seamR_swI (A B : List Int) (k : Nat) (h1 : 1 ≤ k) (h2 : k ≤ A.length) : seamR (A.drop (A.length - k)) B = swI k (lg (A.drop (A.length - k) ++ B)) (seamR (A.drop (A.length - (k - 1))) B) := by
  have hd : A.drop (A.length - k) = A[A.length - k] :: A.drop (A.length - (k - 1)) := by
    rw [List.drop_eq_getElem_cons (show A.length - k < A.length by omega), show A.length - k + 1 = A.length - (k - 1) by omega]
  rw [hd, seamR]
  unfold swI uL
  have hl : (A.drop (A.length - (k - 1))).length + 1 = k := by rw [List.length_drop]; omega
  rw [hl]
theorem cut_lg (S B : List Int) (hS : 1 ≤ S.length) (j : Nat) (h1 : 1 ≤ j) (h2 : j ≤ B.length) : lg (S ++ B.take j) = S.length + j ↔ lg (S ++ B) = S.length + j := by
  have e : S ++ B = (S ++ B.take j) ++ B.drop j := by rw [List.append_assoc, List.take_append_drop]
  constructor
  · intro h
    rw [e, lg_append _ _ (by omega), h]
  · intro h
    rw [e] at h
    rw [lg_of_append (S ++ B.take j) (B.drop j) (by omega) (by rw [h, List.length_append, List.length_take]; omega), h]
theorem bt_bo (s : ByteArray) (i : Int) (h : i.toNat < s.size) : bt s i = (bytesOf s).getD i.toNat (-1) := by
  rw [← rd_bytesOf, rd_getD _ _ (by rw [bytesOf_length]; exact h)]
def cutS (A B : List Int) (k j : Nat) : List Int := A.drop (A.length - k) ++ B.take j
theorem cutS_len (A B : List Int) (k j : Nat) (h : k ≤ A.length) (h' : j ≤ B.length) : (cutS A B k j).length = k + j := by unfold cutS; rw [List.length_append, List.length_drop, List.length_take]; omega
theorem cutS_byt {A B : List Int} (hA : Byt A) (hB : Byt B) (k j : Nat) : Byt (cutS A B k j) := (hA.drop _).append (hB.take _)
theorem cutS_lg (A B : List Int) (k j : Nat) (h1 : 1 ≤ k) (h2 : k ≤ A.length) (h3 : 1 ≤ j) (h4 : j ≤ B.length) : lg (cutS A B k j) = k + j ↔ lg (A.drop (A.length - k) ++ B) = k + j := by
  have e : (A.drop (A.length - k)).length = k := by rw [List.length_drop]; omega
  have := cut_lg (A.drop (A.length - k)) B (by omega) j h3 h4
  rw [e] at this
  exact this
theorem cutS_ba (s t : ByteArray) (k j : Nat) (h : k ≤ s.size) : bytesOf (s.extract (((s.size - k : Nat) : Int)).toNat s.size ++ t.extract 0 ((j : Int)).toNat) = cutS (bytesOf s) (bytesOf t) k j := by
  rw [bo_append, Int.toNat_natCast, Int.toNat_natCast, ex_tail, bo_extract, List.drop_zero, Nat.sub_zero, bytesOf_length s |>.symm]
  rfl
section
variable (a0 a1 a2 a3 b0 b1 b2 b3 : Int) (aH aT bH bT : ByteArray)
theorem w_l1_next (k kk j : Nat) (z1 z2 : Int) (h1 : 1 ≤ kk) (h2 : kk ≤ aT.size) (h3 : 1 ≤ j) (h4 : j ≤ bH.size) (hs : aT.size ≤ 3) (ht : bH.size ≤ 3) :
    weld_seam.l1 (k + 10) kk j a0 a1 a2 a3 aH aT b0 b1 b2 b3 bH bT 0 z1 z2 0 =
      (if lg ((bytesOf aT).drop (aT.size - kk) ++ bytesOf bH) = kk + j then weld_seam.l1 (k + 9) kk ((j + 1 : Nat) : Int) a0 a1 a2 a3 aH aT b0 b1 b2 b3 bH bT 0 ((kk + j : Nat) - 1) ((kk + j : Nat) - uL (kk + j)) 0
       else weld_seam.l1 (k + 9) kk ((j + 1 : Nat) : Int) a0 a1 a2 a3 aH aT b0 b1 b2 b3 bH bT 0 z1 z2 0) := by
  have hB := bo_byt bH
  have hA := bo_byt aT
  have hl := cutS_len (bytesOf aT) (bytesOf bH) kk j (by rw [bytesOf_length]; exact h2) (by rw [bytesOf_length]; exact h4)
  have hne : cutS (bytesOf aT) (bytesOf bH) kk j ≠ [] := fun h => by rw [h] at hl; simp at hl; omega
  have hv := val_lg _ (cutS_byt hA hB kk j) hne
  have hc := cutS_lg (bytesOf aT) (bytesOf bH) kk j h1 (by rw [bytesOf_length]; exact h2) h3 (by rw [bytesOf_length]; exact h4)
  rw [bytesOf_length] at hc
  rw [hl, hc] at hv
  have e1 : wrap64 ((aT.size : Int) - (kk : Int)) = ((aT.size - kk : Nat) : Int) := by rw [w64 (by omega) (by omega)]; omega
  have e2 : wrap64 ((j : Int) + 1) = ((j + 1 : Nat) : Int) := by rw [w64 (by omega) (by omega)]; rfl
  have e3 : wrap64 ((kk : Int) + (j : Int)) = ((kk + j : Nat) : Int) := by rw [w64 (by omega) (by omega)]; omega
  have hcb := cutS_ba aT bH kk j h2
  have hvr := val_range (cutS (bytesOf aT) (bytesOf bH) kk j) (cutS_byt hA hB kk j)
  rw [weld_seam.l1, if_pos (by omega), e1, if_pos (by omega), if_pos (by omega), if_pos (by omega)]
  rw [if_pos (by rw [ByteArray.size_extract, ByteArray.size_extract]; omega), if_pos (by rw [← bytesOf_length, hcb, hl]; omega), hcb, o_Value k _ (cutS_byt hA hB kk j), Option.bind_some, e2, e3]
  by_cases hg : lg ((bytesOf aT).drop (aT.size - kk) ++ bytesOf bH) = kk + j
  · rw [if_pos hg, if_pos (hv.1.2 hg)]
    have hu : weld_units.f (val (cutS (bytesOf aT) (bytesOf bH) kk j)) = some (uL (kk + j)) := by
      unfold weld_units.f uL
      have h5 := hv.2 hg
      rw [hc.2 hg] at h5
      by_cases h6 : kk + j = 4
      · rw [if_pos (h5.2 h6), if_pos h6]
      · rw [if_neg (fun c => h6 (h5.1 c)), if_neg h6]
    have hur := uL_range (kk + j)
    rw [hu, Option.bind_some, w64 (n := ((kk + j : Nat) : Int) - 1) (by omega) (by omega), w64 (n := ((kk + j : Nat) : Int) - uL (kk + j)) (by omega) (by omega)]
  · rw [if_neg hg, if_neg (fun c => hg (hv.1.1 c))]
theorem w_l1_end (k kk j : Nat) (z1 z2 : Int) (h1 : kk ≤ 3) (h : bH.size < j) : weld_seam.l1 (k + 1) kk j a0 a1 a2 a3 aH aT b0 b1 b2 b3 bH bT 0 z1 z2 0 = weld_seam.l0 k ((kk + 1 : Nat) : Int) a0 a1 a2 a3 aH aT b0 b1 b2 b3 bH bT 0 z1 z2 0 := by
  rw [weld_seam.l1, if_neg (by omega), w64 (by omega) (by omega)]
  rfl
theorem w_l1 (kk : Nat) (h1 : 1 ≤ kk) (h2 : kk ≤ aT.size) (hs : aT.size ≤ 3) (ht : bH.size ≤ 3) (p : Int × Int) (L : Nat) (hL : lg ((bytesOf aT).drop (aT.size - kk) ++ bytesOf bH) = L) (d : Nat) :
    ∀ (k j : Nat) (z : Int × Int), 1 ≤ j → j + d = bH.size + 1 → z = (if kk < L ∧ L - kk < j then ((L : Int) - 1, (L : Int) - uL L) else p) →
      weld_seam.l1 (k + 10 + d) kk j a0 a1 a2 a3 aH aT b0 b1 b2 b3 bH bT 0 z.1 z.2 0 = weld_seam.l0 (k + 9) ((kk + 1 : Nat) : Int) a0 a1 a2 a3 aH aT b0 b1 b2 b3 bH bT 0 (swI kk L p).1 (swI kk L p).2 0 := by
  have hll : L ≤ kk + bH.size := by
    have := lg_len ((bytesOf aT).drop (aT.size - kk) ++ bytesOf bH)
    rw [hL, List.length_append, List.length_drop, bytesOf_length, bytesOf_length] at this
    omega
  induction d with
  | zero =>
    intro k j z hj hd hz
    rw [show k + 10 + 0 = (k + 9) + 1 from rfl, w_l1_end a0 a1 a2 a3 b0 b1 b2 b3 aH aT bH bT (k + 9) kk j z.1 z.2 (by omega) (by omega)]
    have : z = swI kk L p := by
      rw [hz]
      unfold swI
      by_cases h : kk < L
      · rw [if_pos ⟨h, by omega⟩, if_pos h]
      · rw [if_neg (fun c => h c.1), if_neg h]
    rw [this]
  | succ d ih =>
    intro k j z hj hd hz
    have hn := w_l1_next a0 a1 a2 a3 b0 b1 b2 b3 aH aT bH bT (k + d + 1) kk j z.1 z.2 h1 h2 hj (by omega) hs ht
    rw [show k + 10 + (d + 1) = k + d + 1 + 10 by omega, hn, hL]
    by_cases hg : L = kk + j
    · rw [if_pos hg, ← hg]
      have := ih k (j + 1) ((L : Int) - 1, (L : Int) - uL L) (by omega) (by omega) (by rw [if_pos ⟨by omega, by omega⟩])
      rw [show k + d + 1 + 9 = k + 10 + d by omega]
      exact this
    · rw [if_neg hg]
      have := ih k (j + 1) z (by omega) (by omega) (by
        rw [hz]
        by_cases h : kk < L ∧ L - kk < j
        · rw [if_pos h, if_pos ⟨h.1, by omega⟩]
        · rw [if_neg h, if_neg (fun c => h ⟨c.1, by omega⟩)])
      rw [show k + d + 1 + 9 = k + 10 + d by omega]
      exact this
theorem w_l0_end (k kk : Nat) (z1 z2 : Int) (h : aT.size < kk) (hs : aT.size ≤ 3) (ht : bH.size ≤ 3) : weld_seam.l0 (k + 1) kk a0 a1 a2 a3 aH aT b0 b1 b2 b3 bH bT 0 z1 z2 0 = some (0, z1, z2, seamE (bytesOf aT) (bytesOf bH)) := by
  rw [weld_seam.l0, if_neg (by omega)]
  unfold weld_tailIs.f seamE
  rw [bytesOf_length]
  by_cases ha : (aT.size : Int) > 0
  · have e : wrap64 ((aT.size : Int) - 1) = ((aT.size - 1 : Nat) : Int) := by rw [w64 (by omega) (by omega)]; omega
    rw [if_pos ha, e, if_pos (by omega), if_pos (by omega), Option.bind_some, bt_bo aT _ (by simp; omega)]
    simp only [Int.toNat_natCast, beq_iff_eq]
    by_cases h13 : (bytesOf aT).getD (aT.size - 1) (-1) = 13
    · rw [if_pos h13]
      by_cases hb : (bH.size : Int) > 0
      · rw [if_pos hb, if_pos (by omega), bt_bo bH _ (by simp; omega)]
        simp only [Int.toNat_zero]
        by_cases h10 : (bytesOf bH).getD 0 (-1) = 10
        · rw [if_pos h10, if_pos ⟨h13, h10⟩]
        · rw [if_neg h10, if_neg (fun c => h10 c.2)]
      · rw [if_neg hb, if_neg (fun c => by rw [getD_m1 _ 0 (by rw [bytesOf_length]; omega)] at c; omega)]
    · rw [if_neg h13, if_neg (fun c => h13 c.1)]
  · rw [if_neg ha, Option.bind_some, if_neg (by decide), if_neg (fun c => by rw [getD_m1 _ _ (by rw [bytesOf_length]; omega)] at c; omega)]
theorem w_l0 (hs : aT.size ≤ 3) (ht : bH.size ≤ 3) (d : Nat) : ∀ (k kk : Nat) (z : Int × Int), 1 ≤ kk → kk + d = aT.size + 1 → z = seamR ((bytesOf aT).drop (aT.size - (kk - 1))) (bytesOf bH) →
    weld_seam.l0 (k + 20 + 20 * d) kk a0 a1 a2 a3 aH aT b0 b1 b2 b3 bH bT 0 z.1 z.2 0 = some (0, (seamR (bytesOf aT) (bytesOf bH)).1, (seamR (bytesOf aT) (bytesOf bH)).2, seamE (bytesOf aT) (bytesOf bH)) := by
  induction d with
  | zero =>
    intro k kk z hk hd hz
    rw [show k + 20 + 20 * 0 = (k + 19) + 1 by omega, w_l0_end a0 a1 a2 a3 b0 b1 b2 b3 aH aT bH bT _ kk z.1 z.2 (by omega) hs ht, hz, show aT.size - (kk - 1) = 0 by omega, List.drop_zero]
  | succ d ih =>
    intro k kk z hk hd hz
    have hsw := seamR_swI (bytesOf aT) (bytesOf bH) kk hk (by rw [bytesOf_length]; omega)
    rw [bytesOf_length, ← hz] at hsw
    have h1 := w_l1 a0 a1 a2 a3 b0 b1 b2 b3 aH aT bH bT kk hk (by omega) hs ht z _ rfl bH.size (k + 20 + 20 * d + 9 - bH.size) 1 z (by omega) (by omega) (by rw [if_neg (by omega)])
    have h2 := ih (k + 18 - bH.size) (kk + 1) _ (by omega) (by omega) hsw.symm
    rw [show k + 20 + 20 * (d + 1) = (k + 20 + 20 * d + 9 - bH.size + 10 + bH.size) + 1 by omega, weld_seam.l0, if_pos (by omega)]
    rw [show (1 : Int) = ((1 : Nat) : Int) from rfl, h1, show k + 20 + 20 * d + 9 - bH.size + 9 = k + 18 - bH.size + 20 + 20 * d by omega]
    exact h2
theorem wSeam_eq (k : Nat) (hs : aT.size ≤ 3) (ht : bH.size ≤ 3) (hk : 80 ≤ k) : weld_seam.f k a0 a1 a2 a3 aH aT b0 b1 b2 b3 bH bT = some (0, (seamR (bytesOf aT) (bytesOf bH)).1, (seamR (bytesOf aT) (bytesOf bH)).2, seamE (bytesOf aT) (bytesOf bH)) := by
  unfold weld_seam.f
  have h := w_l0 a0 a1 a2 a3 b0 b1 b2 b3 aH aT bH bT hs ht aT.size (k - 20 - 20 * aT.size) 1 (0, 0) (by omega) (by omega) (by rw [Nat.sub_self, Nat.sub_zero, List.drop_of_length_le (by rw [bytesOf_length]; omega)]; rfl)
  rw [show k - 20 - 20 * aT.size + 20 + 20 * aT.size = k by omega] at h
  exact h
end
end Go.Proofs.YtaojbcplmdjfnaaDoor.PuSm

namespace Go.Proofs.YtaojbcplmdjfnaaDoor.PuJn
open Go.RowKit Go.Proofs.YtaojbcplmdjfnaaDoor.Pr Go.Proofs.YtaojbcplmdjfnaaDoor.Math Go.Proofs.YtaojbcplmdjfnaaDoor.Ev Go.Proofs.YtaojbcplmdjfnaaDoor.PuSz Go.Proofs.YtaojbcplmdjfnaaDoor.PuMs Go.Proofs.YtaojbcplmdjfnaaDoor.PuSm Go.Proofs.YtaojbcplmdjfnaaDoorW.PrintWords Go.Proofs.YtaojbcplmdjfnaaDoorW.PrintLast Go.Proofs.YtaojbcplmdjfnaaDoorW.PrintMore
set_option linter.unusedVariables false
set_option linter.unusedSimpArgs false
def R64 (x : Int) : Prop := -9223372036854775808 ≤ x ∧ x ≤ 9223372036854775807
def vM (a : Ms) : Bool := vldB a.1 a.2.1 a.2.2.1 a.2.2.2.1 (bytesOf a.2.2.2.2.1) (bytesOf a.2.2.2.2.2)
theorem vld_range {n r u e : Int} {H T : List Int} (h : vldB n r u e H T = true) : (0 ≤ n ∧ n ≤ 268435456) ∧ (0 ≤ r ∧ r ≤ n) ∧ (0 ≤ u ∧ u ≤ 2 * n) ∧ (0 ≤ e ∧ e ≤ n) ∧ (H.length : Int) = min 3 n ∧ (T.length : Int) = min 3 n := by
  by_cases hc : n < 0 ∨ n > 268435456 ∨ (H.length : Int) ≠ min 3 n ∨ (T.length : Int) ≠ min 3 n
  · unfold vldB at h; rw [if_pos hc] at h; cases h
  · have hn : 0 ≤ n ∧ n ≤ 268435456 := by omega
    have hh : (H.length : Int) = min 3 n := by omega
    have ht : (T.length : Int) = min 3 n := by omega
    rw [vldB_in n r u e H T hn hh ht] at h
    refine ⟨hn, ?_⟩
    by_cases h6 : n ≤ 6
    · rw [if_pos h6, Bool.and_eq_true, decide_eq_true_eq, decide_eq_true_eq] at h
      obtain ⟨h1, h2, h3, h4⟩ := h
      have hs := ends_six n.toNat (by omega) H T (by omega) (by omega) h1
      generalize H ++ T.drop (H.length + T.length - n.toNat) = B at *
      have q1 := rn_bounds' B
      have q2 := en_bounds' B 0
      omega
    · rw [if_neg h6, decide_eq_true_eq] at h
      omega
def jnM (a b : Ms) : Ms :=
  (a.1 + b.1, a.2.1 + b.2.1 - (seamR (bytesOf a.2.2.2.2.2) (bytesOf b.2.2.2.2.1)).1, a.2.2.1 + b.2.2.1 - (seamR (bytesOf a.2.2.2.2.2) (bytesOf b.2.2.2.2.1)).2, a.2.2.2.1 + b.2.2.2.1 - seamE (bytesOf a.2.2.2.2.2) (bytesOf b.2.2.2.2.1),
    if a.1 < 3 then strOfNums ((bytesOf a.2.2.2.2.1 ++ bytesOf b.2.2.2.2.1).take 3) else a.2.2.2.2.1,
    if b.1 < 3 then strOfNums ((bytesOf a.2.2.2.2.2 ++ bytesOf b.2.2.2.2.2).drop (a.2.2.2.2.2.size + b.2.2.2.2.2.size - 3)) else b.2.2.2.2.2)
def erM (a b : Ms) : Int := if vM a = true ∧ vM b = true then (if a.1 + b.1 > 268435456 then 5 else if vM (jnM a b) = true then 0 else 50) else 50
def joM (a b : Ms) : Ms := if erM a b = 0 then jnM a b else m0
def smM (a b : Ms) : Int × Int × Int := if erM a b = 0 then ((seamR (bytesOf a.2.2.2.2.2) (bytesOf b.2.2.2.2.1)).1, (seamR (bytesOf a.2.2.2.2.2) (bytesOf b.2.2.2.2.1)).2, seamE (bytesOf a.2.2.2.2.2) (bytesOf b.2.2.2.2.1)) else (0, 0, 0)
theorem er_bad {a b : Ms} (h : ¬ (vM a = true ∧ vM b = true)) : erM a b = 50 := by unfold erM; rw [if_neg h]
theorem er_long {a b : Ms} (h : vM a = true ∧ vM b = true) (h' : a.1 + b.1 > 268435456) : erM a b = 5 := by unfold erM; rw [if_pos h, if_pos h']
theorem er_fine {a b : Ms} (h : vM a = true ∧ vM b = true) (h' : ¬ a.1 + b.1 > 268435456) (h2 : vM (jnM a b) = true) : erM a b = 0 := by unfold erM; rw [if_pos h, if_neg h', if_pos h2]
theorem er_not {a b : Ms} (h : vM a = true ∧ vM b = true) (h' : ¬ a.1 + b.1 > 268435456) (h2 : vM (jnM a b) = false) : erM a b = 50 := by unfold erM; rw [if_pos h, if_neg h', if_neg (by rw [h2]; decide)]
section
variable (a0 a1 a2 a3 b0 b1 b2 b3 : Int) (aH aT bH bT : ByteArray)
theorem sum_eq (p0 p1 p2 p3 q0 q1 q2 q3 t : Int) (ht : t = 1 ∨ t = -1) (h0 : 0 ≤ p0 ∧ p0 ≤ 4294967296) (h1 : 0 ≤ p1 ∧ p1 ≤ 4294967296) (h2 : 0 ≤ p2 ∧ p2 ≤ 4294967296) (h3 : 0 ≤ p3 ∧ p3 ≤ 4294967296)
    (g0 : 0 ≤ q0 ∧ q0 ≤ 4294967296) (g1 : 0 ≤ q1 ∧ q1 ≤ 4294967296) (g2 : 0 ≤ q2 ∧ q2 ≤ 4294967296) (g3 : 0 ≤ q3 ∧ q3 ≤ 4294967296) : weld_sum.f p0 p1 p2 p3 q0 q1 q2 q3 t = some (p0 + t * q0, p1 + t * q1, p2 + t * q2, p3 + t * q3) := by
  unfold weld_sum.f
  rcases ht with rfl | rfl
  · simp only [Int.one_mul]
    rw [w64 (n := q0) (by omega) (by omega), w64 (n := q1) (by omega) (by omega), w64 (n := q2) (by omega) (by omega), w64 (n := q3) (by omega) (by omega), w64 (by omega) (by omega), w64 (by omega) (by omega), w64 (by omega) (by omega), w64 (by omega) (by omega)]
  · simp only [Int.neg_mul, Int.one_mul]
    rw [w64 (n := -q0) (by omega) (by omega), w64 (n := -q1) (by omega) (by omega), w64 (n := -q2) (by omega) (by omega), w64 (n := -q3) (by omega) (by omega), w64 (by omega) (by omega), w64 (by omega) (by omega), w64 (by omega) (by omega), w64 (by omega) (by omega)]
def jT (b0 : Int) (aT bT : ByteArray) : ByteArray := if b0 < 3 then strOfNums ((bytesOf aT ++ bytesOf bT).drop (aT.size + bT.size - 3)) else bT
def jH (a0 : Int) (aH bH : ByteArray) : ByteArray := if a0 < 3 then strOfNums ((bytesOf aH ++ bytesOf bH).take 3) else aH
theorem j1_eq (k : Nat) (r0 r1 r2 r3 s0 s1 s2 s3 : Int) (h : ByteArray) (hr1 : R64 r1) (hr2 : R64 r2) (ha : aT.size ≤ 3) (hb : bT.size ≤ 3) :
    weld_both.j1 (k + 2) a0 a1 a2 a3 aH aT b0 b1 b2 b3 bH bT s0 s1 s2 s3 r0 r1 r2 r3 h bT = some (if vM (r0, r1, r2, r3, h, jT b0 aT bT) = true then (r0, r1, r2, r3, h, jT b0 aT bT, s0, s1, s2, s3, 0) else (0, 0, 0, 0, ⟨#[]⟩, ⟨#[]⟩, 0, 0, 0, 0, 50)) := by
  rw [weld_both.j1]
  unfold jT
  by_cases h3 : b0 < 3
  · rw [if_pos h3, if_pos (by omega), tail_eq _ (by rw [← bytesOf_length, bo_append, List.length_append, bytesOf_length, bytesOf_length]; omega), Option.bind_some, if_pos h3]
    have hsz : (aT ++ bT).size = aT.size + bT.size := by rw [← bytesOf_length, bo_append, List.length_append, bytesOf_length, bytesOf_length]
    rw [bo_append, hsz, weldValid_eq k _ _ _ _ _ _ hr1 hr2, Option.bind_some]
    unfold vM
    dsimp only
    split <;> rfl
  · rw [if_neg h3, if_neg h3, weldValid_eq k _ _ _ _ _ _ hr1 hr2, Option.bind_some]
    unfold vM
    dsimp only
    split <;> rfl
set_option maxHeartbeats 2000000 in
theorem both_eq (k : Nat) (hk : 120 ≤ k) (ha1 : R64 a1) (ha2 : R64 a2) (hb1 : R64 b1) (hb2 : R64 b2) :
    weld_both.f k a0 a1 a2 a3 aH aT b0 b1 b2 b3 bH bT = some ((joM (a0, a1, a2, a3, aH, aT) (b0, b1, b2, b3, bH, bT)).1, (joM (a0, a1, a2, a3, aH, aT) (b0, b1, b2, b3, bH, bT)).2.1, (joM (a0, a1, a2, a3, aH, aT) (b0, b1, b2, b3, bH, bT)).2.2.1, (joM (a0, a1, a2, a3, aH, aT) (b0, b1, b2, b3, bH, bT)).2.2.2.1, (joM (a0, a1, a2, a3, aH, aT) (b0, b1, b2, b3, bH, bT)).2.2.2.2.1, (joM (a0, a1, a2, a3, aH, aT) (b0, b1, b2, b3, bH, bT)).2.2.2.2.2,
      0, (smM (a0, a1, a2, a3, aH, aT) (b0, b1, b2, b3, bH, bT)).1, (smM (a0, a1, a2, a3, aH, aT) (b0, b1, b2, b3, bH, bT)).2.1, (smM (a0, a1, a2, a3, aH, aT) (b0, b1, b2, b3, bH, bT)).2.2, erM (a0, a1, a2, a3, aH, aT) (b0, b1, b2, b3, bH, bT)) := by
  obtain ⟨k, rfl⟩ : ∃ m, k = m + 120 := ⟨k - 120, by omega⟩
  generalize hA : ((a0, a1, a2, a3, aH, aT) : Ms) = A
  generalize hB : ((b0, b1, b2, b3, bH, bT) : Ms) = B
  have vA : vldB a0 a1 a2 a3 (bytesOf aH) (bytesOf aT) = vM A := by rw [← hA]; rfl
  have vB : vldB b0 b1 b2 b3 (bytesOf bH) (bytesOf bT) = vM B := by rw [← hB]; rfl
  have hbad : ∀ x : Bool, x = true → ¬ (vM A = true ∧ vM B = true) → weld_both.j0 (k + 120) x a0 a1 a2 a3 aH aT b0 b1 b2 b3 bH bT = some ((joM A B).1, (joM A B).2.1, (joM A B).2.2.1, (joM A B).2.2.2.1, (joM A B).2.2.2.2.1, (joM A B).2.2.2.2.2, 0, (smM A B).1, (smM A B).2.1, (smM A B).2.2, erM A B) := by
    intro x hx hv
    have he := er_bad hv
    have hj : joM A B = m0 := by unfold joM; rw [he]; rfl
    have hs : smM A B = (0, 0, 0) := by unfold smM; rw [he]; rfl
    rw [hj, hs, he, weld_both.j0, if_pos hx]
    rfl
  unfold weld_both.f
  rw [weldValid_eq (k + 119) a0 a1 a2 a3 aH aT ha1 ha2, vA, Option.bind_some]
  by_cases hva : vM A = true
  · rw [if_pos hva, weldValid_eq (k + 119) b0 b1 b2 b3 bH bT hb1 hb2, vB, Option.bind_some]
    by_cases hvb : vM B = true
    · have rA := vld_range (vA.trans hva)
      have rB := vld_range (vB.trans hvb)
      rw [bytesOf_length, bytesOf_length] at rA rB
      have hAB : A.1 = a0 ∧ B.1 = b0 := by rw [← hA, ← hB]; exact ⟨rfl, rfl⟩
      rw [weld_both.j0, hvb, if_neg (by decide), w64 (n := a0 + b0) (by omega) (by omega)]
      by_cases hlong : a0 + b0 > 268435456
      · have he := er_long ⟨hva, hvb⟩ (show A.1 + B.1 > 268435456 by rw [hAB.1, hAB.2]; exact hlong)
        have hj : joM A B = m0 := by unfold joM; rw [he]; rfl
        have hs : smM A B = (0, 0, 0) := by unfold smM; rw [he]; rfl
        rw [if_pos hlong, hj, hs, he]
        rfl
      · have hnl : ¬ A.1 + B.1 > 268435456 := by rw [hAB.1, hAB.2]; exact hlong
        have sr := seamR_range (bytesOf aT) (bytesOf bH)
        have se := seamE_range (bytesOf aT) (bytesOf bH)
        rw [if_neg hlong, wSeam_eq a0 a1 a2 a3 b0 b1 b2 b3 aH aT bH bT (k + 119) (by omega) (by omega) (by omega), Option.bind_some]
        dsimp only
        rw [sum_eq a0 a1 a2 a3 b0 b1 b2 b3 1 (.inl rfl) (by omega) (by omega) (by omega) (by omega) (by omega) (by omega) (by omega) (by omega), Option.bind_some]
        dsimp only
        have e0 : weld_sum.f (a0 + 1 * b0) (a1 + 1 * b1) (a2 + 1 * b2) (a3 + 1 * b3) 0 (seamR (bytesOf aT) (bytesOf bH)).1 (seamR (bytesOf aT) (bytesOf bH)).2 (seamE (bytesOf aT) (bytesOf bH)) (-1) = some (a0 + b0, a1 + b1 - (seamR (bytesOf aT) (bytesOf bH)).1, a2 + b2 - (seamR (bytesOf aT) (bytesOf bH)).2, a3 + b3 - seamE (bytesOf aT) (bytesOf bH)) := by
          rw [sum_eq _ _ _ _ _ _ _ _ (-1) (.inr rfl) (by omega) (by omega) (by omega) (by omega) (by omega) (by omega) (by omega) (by omega)]
          congr 1
          simp only [Int.one_mul, Int.neg_mul, Int.neg_zero, Int.add_zero, Int.sub_eq_add_neg]
        rw [e0, Option.bind_some]
        dsimp only
        have hj := j1_eq a0 a1 a2 a3 b0 b1 b2 b3 aH aT bH bT (k + 117) (a0 + b0) (a1 + b1 - (seamR (bytesOf aT) (bytesOf bH)).1) (a2 + b2 - (seamR (bytesOf aT) (bytesOf bH)).2) (a3 + b3 - seamE (bytesOf aT) (bytesOf bH)) 0 (seamR (bytesOf aT) (bytesOf bH)).1 (seamR (bytesOf aT) (bytesOf bH)).2 (seamE (bytesOf aT) (bytesOf bH)) (jH a0 aH bH) ⟨by omega, by omega⟩ ⟨by omega, by omega⟩ (by omega) (by omega)
        have hJ : jnM A B = (a0 + b0, a1 + b1 - (seamR (bytesOf aT) (bytesOf bH)).1, a2 + b2 - (seamR (bytesOf aT) (bytesOf bH)).2, a3 + b3 - seamE (bytesOf aT) (bytesOf bH), jH a0 aH bH, jT b0 aT bT) := by rw [← hA, ← hB]; rfl
        rw [← hJ] at hj
        have hgo : weld_both.j1 (k + 119) a0 a1 a2 a3 aH aT b0 b1 b2 b3 bH bT 0 (seamR (bytesOf aT) (bytesOf bH)).1 (seamR (bytesOf aT) (bytesOf bH)).2 (seamE (bytesOf aT) (bytesOf bH)) (a0 + b0) (a1 + b1 - (seamR (bytesOf aT) (bytesOf bH)).1) (a2 + b2 - (seamR (bytesOf aT) (bytesOf bH)).2) (a3 + b3 - seamE (bytesOf aT) (bytesOf bH)) (jH a0 aH bH) bT =
            some ((joM A B).1, (joM A B).2.1, (joM A B).2.2.1, (joM A B).2.2.2.1, (joM A B).2.2.2.2.1, (joM A B).2.2.2.2.2, 0, (smM A B).1, (smM A B).2.1, (smM A B).2.2, erM A B) := by
          rw [hj]
          by_cases hvj : vM (jnM A B) = true
          · have he := er_fine ⟨hva, hvb⟩ hnl hvj
            have hjo : joM A B = jnM A B := by unfold joM; rw [if_pos he]
            have hs : smM A B = ((seamR (bytesOf aT) (bytesOf bH)).1, (seamR (bytesOf aT) (bytesOf bH)).2, seamE (bytesOf aT) (bytesOf bH)) := by unfold smM; rw [if_pos he, ← hA, ← hB]
            rw [if_pos hvj, hjo, hs, he, hJ]
          · have he := er_not ⟨hva, hvb⟩ hnl (by simpa using hvj)
            have hjo : joM A B = m0 := by unfold joM; rw [he]; rfl
            have hs : smM A B = (0, 0, 0) := by unfold smM; rw [he]; rfl
            rw [if_neg hvj, hjo, hs, he]
            rfl
        rw [← hgo]
        by_cases h3 : a0 < 3
        · rw [if_pos h3, if_pos (by omega), head_eq', Option.bind_some, bo_append]
          unfold jH
          rw [if_pos h3]
        · rw [if_neg h3]
          unfold jH
          rw [if_neg h3]
    · rw [Bool.not_eq_true] at hvb
      rw [hvb]
      exact hbad _ rfl (fun c => by rw [hvb] at c; cases c.2)
  · rw [if_neg hva]
    exact hbad _ rfl (fun c => hva c.1)
theorem wJoin_eq (k : Nat) (hk : 120 ≤ k) (ha1 : R64 a1) (ha2 : R64 a2) (hb1 : R64 b1) (hb2 : R64 b2) :
    weld_Join.f k a0 a1 a2 a3 aH aT b0 b1 b2 b3 bH bT = some ((joM (a0, a1, a2, a3, aH, aT) (b0, b1, b2, b3, bH, bT)).1, (joM (a0, a1, a2, a3, aH, aT) (b0, b1, b2, b3, bH, bT)).2.1, (joM (a0, a1, a2, a3, aH, aT) (b0, b1, b2, b3, bH, bT)).2.2.1, (joM (a0, a1, a2, a3, aH, aT) (b0, b1, b2, b3, bH, bT)).2.2.2.1, (joM (a0, a1, a2, a3, aH, aT) (b0, b1, b2, b3, bH, bT)).2.2.2.2.1, (joM (a0, a1, a2, a3, aH, aT) (b0, b1, b2, b3, bH, bT)).2.2.2.2.2, erM (a0, a1, a2, a3, aH, aT) (b0, b1, b2, b3, bH, bT)) := by
  unfold weld_Join.f
  rw [both_eq a0 a1 a2 a3 b0 b1 b2 b3 aH aT bH bT k hk ha1 ha2 hb1 hb2]
  rfl
end
end Go.Proofs.YtaojbcplmdjfnaaDoor.PuJn

namespace Go.Proofs.YtaojbcplmdjfnaaDoor.PuOf
open Go.RowKit Go.Proofs.YtaojbcplmdjfnaaDoor.Pr Go.Proofs.YtaojbcplmdjfnaaDoor.Math Go.Proofs.YtaojbcplmdjfnaaDoor.Ev Go.Proofs.YtaojbcplmdjfnaaDoor.PuSz Go.Proofs.YtaojbcplmdjfnaaDoor.PuMs Go.Proofs.YtaojbcplmdjfnaaDoor.PuSm Go.Proofs.YtaojbcplmdjfnaaDoor.PuJn Go.Proofs.YtaojbcplmdjfnaaDoorW.PrintWords Go.Proofs.YtaojbcplmdjfnaaDoorW.PrintLast Go.Proofs.YtaojbcplmdjfnaaDoorW.PrintMore
set_option linter.unusedVariables false
set_option linter.unusedSimpArgs false
theorem jn_of (a b : List Int) (ha : Byt a) (hb : Byt b) : jnM (mOf a) (mOf b) = mOf (a ++ b) := by
  have rf := rf_append a b
  have es := en_seam a b
  have e1 : seamR (a.drop (a.length - 3)) (b.take 3) = seamR a b := by rw [← seamR_last, ← seamR_take]
  have e2 : seamE (a.drop (a.length - 3)) (b.take 3) = seamE a b := (seamE_last a b).symm
  have hd : (if (a.length : Int) < 3 then strOfNums ((a.take 3 ++ b.take 3).take 3) else strOfNums (a.take 3)) = strOfNums ((a ++ b).take 3) := by
    by_cases h : (a.length : Int) < 3
    · rw [if_pos h, List.take_of_length_le (show a.length ≤ 3 by omega), List.take_append, List.take_append, List.take_take, show min (3 - a.length) 3 = 3 - a.length by omega]
    · rw [if_neg h, List.take_append_of_le_length (by omega)]
  have tl : (if (b.length : Int) < 3 then strOfNums ((a.drop (a.length - 3) ++ b.drop (b.length - 3)).drop ((a.drop (a.length - 3)).length + (b.drop (b.length - 3)).length - 3)) else strOfNums (b.drop (b.length - 3))) = strOfNums ((a ++ b).drop ((a ++ b).length - 3)) := by
    rw [List.length_append]
    by_cases h : (b.length : Int) < 3
    · rw [if_pos h, show b.length - 3 = 0 by omega, List.drop_zero]
      congr 1
      have e : a ++ b = a.take (a.length - 3) ++ (a.drop (a.length - 3) ++ b) := by rw [← List.append_assoc, List.take_append_drop]
      rw [e, List.drop_append (l₁ := a.take (a.length - 3)), List.drop_of_length_le (l := a.take (a.length - 3)) (by rw [List.length_take]; omega), List.nil_append, List.length_take, List.length_drop]
      congr 1
      omega
    · rw [if_neg h, show a.length + b.length - 3 = a.length + (b.length - 3) by omega, ← List.drop_drop, List.drop_left]
  unfold jnM mOf
  dsimp only
  rw [bo_str _ (ha.drop _), bo_str _ (ha.take 3), bo_str _ (hb.take 3), bo_str _ (hb.drop _), sz_str, sz_str, e1, e2, hd, tl, List.length_append, es, rf.2, rf.1, Int.natCast_add]
theorem vM_of (a : List Int) (ha : Byt a) (hl : a.length ≤ 268435456) : vM (mOf a) = true := by
  unfold vM mOf
  dsimp only
  rw [bo_str _ (ha.take 3), bo_str _ (ha.drop _)]
  exact vld_of a ha hl
theorem er_of (a b : List Int) (ha : Byt a) (hb : Byt b) (hl : a.length + b.length ≤ 268435456) : erM (mOf a) (mOf b) = 0 :=
  er_fine ⟨vM_of a ha (by omega), vM_of b hb (by omega)⟩ (by show ¬ (a.length : Int) + (b.length : Int) > 268435456; omega) (by rw [jn_of a b ha hb]; exact vM_of _ (ha.append hb) (by rw [List.length_append]; omega))
theorem jo_of (a b : List Int) (ha : Byt a) (hb : Byt b) (hl : a.length + b.length ≤ 268435456) : joM (mOf a) (mOf b) = mOf (a ++ b) := by
  unfold joM; rw [if_pos (er_of a b ha hb hl), jn_of a b ha hb]
theorem r64_of (a : List Int) (hl : a.length ≤ 4294967296) : R64 (mOf a).2.1 ∧ R64 (mOf a).2.2.1 := by
  have := rn_bounds' a
  unfold R64 mOf
  dsimp only
  omega
theorem join_of (k : Nat) (hk : 120 ≤ k) (a b : List Int) (ha : Byt a) (hb : Byt b) (hl : a.length + b.length ≤ 268435456) :
    weld_Join.f k (mOf a).1 (mOf a).2.1 (mOf a).2.2.1 (mOf a).2.2.2.1 (mOf a).2.2.2.2.1 (mOf a).2.2.2.2.2 (mOf b).1 (mOf b).2.1 (mOf b).2.2.1 (mOf b).2.2.2.1 (mOf b).2.2.2.2.1 (mOf b).2.2.2.2.2 =
      some ((mOf (a ++ b)).1, (mOf (a ++ b)).2.1, (mOf (a ++ b)).2.2.1, (mOf (a ++ b)).2.2.2.1, (mOf (a ++ b)).2.2.2.2.1, (mOf (a ++ b)).2.2.2.2.2, 0) := by
  have ra := r64_of a (by omega)
  have rb := r64_of b (by omega)
  rw [wJoin_eq _ _ _ _ _ _ _ _ _ _ _ _ k hk ra.1 ra.2 rb.1 rb.2]
  have e : ∀ x : List Int, ((mOf x).1, (mOf x).2.1, (mOf x).2.2.1, (mOf x).2.2.2.1, (mOf x).2.2.2.2.1, (mOf x).2.2.2.2.2) = mOf x := fun _ => rfl
  rw [e a, e b, jo_of a b ha hb hl, er_of a b ha hb hl]
end Go.Proofs.YtaojbcplmdjfnaaDoor.PuOf

namespace Go.Proofs.YtaojbcplmdjfnaaDoor.Pr
open Go.RowKit Go.Proofs.YtaojbcplmdjfnaaDoorW.PrintWords Go.Proofs.YtaojbcplmdjfnaaDoorW.PrintLast Go.Proofs.YtaojbcplmdjfnaaDoorW.PrintMore
attribute [local go_sem] max2_int min2_int max_two min_two max_three min_three max_four min_four   -- for this text's walks alone
set_option linter.unusedVariables false
set_option linter.unusedSimpArgs false
attribute [local go_sem high] eqA26
def galleylaw05_WeldJoins.f (k : Nat) (l0 : List Int) (l1 : List Int) : Option (Bool) := (galleylaw05_fixed.f).bind fun t384 => (if t384 = true then (if (wrap64 ((l0.length : Int) + (l1.length : Int))) > 268435456 then (some true) else ((some (([] : List Int) : List Int)).bind fun y385 => (if y385.length + l0.length < 140737488355328 then ((some (y385 ++ l0 : List Int)).bind fun y388 => (if y388.length + l1.length < 140737488355328 then ((some (y388 ++ l1 : List Int)).bind fun y391 => ((weld_Of.f l0).bind fun bt394 => ((weld_Of.f l1).bind fun bt400 => ((weld_Join.f k bt394.1 bt394.2.1 bt394.2.2.1 bt394.2.2.2.1 bt394.2.2.2.2.1 bt394.2.2.2.2.2 bt400.1 bt400.2.1 bt400.2.2.1 bt400.2.2.2.1 bt400.2.2.2.2.1 bt400.2.2.2.2.2).bind fun bt406 => ((weld_Of.f l0).bind fun bt414 => ((weld_Of.f l1).bind fun bt420 => ((weld_Seam.f k bt414.1 bt414.2.1 bt414.2.2.1 bt414.2.2.2.1 bt414.2.2.2.2.1 bt414.2.2.2.2.2 bt420.1 bt420.2.1 bt420.2.2.1 bt420.2.2.2.1 bt420.2.2.2.2.1 bt420.2.2.2.2.2).bind fun bt426 => ((weld_Sizes.f l0).bind fun bt432 => ((weld_Sizes.f l1).bind fun bt436 => ((weld_Sizes.f y391).bind fun bt440 => (if bt406.2.2.2.2.2.2 = 0 then (if bt426.2.2.2.2 = 0 then ((weld_Of.f y391).bind fun bt447 => (if ((bt406.1 == bt447.1 && (bt406.2.1 == bt447.2.1 && (bt406.2.2.1 == bt447.2.2.1 && (bt406.2.2.2.1 == bt447.2.2.2.1)))) && (bt406.2.2.2.2.1.toList == bt447.2.2.2.2.1.toList && (bt406.2.2.2.2.2.1.toList == bt447.2.2.2.2.2.toList))) = true then (if bt426.1 = 0 then (if bt426.2.1 = (wrap64 ((wrap64 (bt432.2.1 + bt436.2.1)) - bt440.2.1)) then (if bt426.2.2.1 = (wrap64 ((wrap64 (bt432.2.2.1 + bt436.2.2.1)) - bt440.2.2.1)) then (some (bt426.2.2.2.1 == (wrap64 ((wrap64 (bt432.2.2.2 + bt436.2.2.2)) - bt440.2.2.2)))) else (none)) else (none)) else (none)) else (none))) else (none)) else (none)))))))))))) else (none))) else (none)))) else (none))
end Go.Proofs.YtaojbcplmdjfnaaDoor.Pr

namespace Go.Proofs.YtaojbcplmdjfnaaDoor.PuWJoins
open Go.RowKit Go.Proofs.YtaojbcplmdjfnaaDoor.Pr Go.Proofs.YtaojbcplmdjfnaaDoor.Math Go.Proofs.YtaojbcplmdjfnaaDoor.Ev Go.Proofs.YtaojbcplmdjfnaaDoor.PuSz Go.Proofs.YtaojbcplmdjfnaaDoor.PuMs Go.Proofs.YtaojbcplmdjfnaaDoor.PuSm Go.Proofs.YtaojbcplmdjfnaaDoor.PuJn Go.Proofs.YtaojbcplmdjfnaaDoor.PuOf Go.Proofs.YtaojbcplmdjfnaaDoorW.PrintWords Go.Proofs.YtaojbcplmdjfnaaDoorW.PrintLast Go.Proofs.YtaojbcplmdjfnaaDoorW.PrintMore
set_option linter.unusedVariables false
set_option linter.unusedSimpArgs false
theorem bytes_l0 (l : List Int) (hb : Byt l) (hl : l.length ≤ 268435456) (d : Nat) : ∀ (k i : Nat), i + d = l.length →
    galleylaw05_WeldBytes.l0 (k + 150 + 2 * d) l (l.length : Int) i (mOf (l.take i)).1 (mOf (l.take i)).2.1 (mOf (l.take i)).2.2.1 (mOf (l.take i)).2.2.2.1 (mOf (l.take i)).2.2.2.2.1 (mOf (l.take i)).2.2.2.2.2 = some true := by
  induction d with
  | zero =>
    intro k i hi
    have hn : Byt [] := fun x hx => by cases hx
    rw [show k + 150 + 2 * 0 = (k + 149) + 1 by omega, galleylaw05_WeldBytes.l0, if_neg (by omega)]
    have ht : l.take i = l := List.take_of_length_le (by omega)
    have e0 : mOf [] = m0 := mOf_nil
    rw [weldOf_eq [] hn (by simp), Option.bind_some, ht, join_of (k + 149) (by omega) l [] hb hn (by simp; omega), Option.bind_some, Option.bind_some, join_of (k + 149) (by omega) [] l hn hb (by simp; omega), Option.bind_some]
    dsimp only
    rw [if_pos rfl, if_pos rfl, List.append_nil, List.nil_append, if_pos (by simp), if_pos (by simp), weldOf_eq l hb hl, Option.bind_some]
    simp
  | succ d ih =>
    intro k i hi
    have hil : i < l.length := by omega
    have s1 : wrap64 ((i : Int) + 1) = ((i + 1 : Nat) : Int) := by rw [w64 (by omega) (by omega)]; rfl
    have ht : (l.take (i + 1)).drop i = [l[i]] := by
      rw [List.take_succ_eq_append_getElem hil, List.drop_append, List.drop_of_length_le (by rw [List.length_take]; omega), List.nil_append, List.length_take, show i - min i l.length = 0 by omega, List.drop_zero]
    have hx : Byt [l[i]] := fun x hx => by rw [List.mem_singleton.1 hx]; exact hb _ (List.getElem_mem hil)
    have htt : l.take i ++ [l[i]] = l.take (i + 1) := (List.take_succ_eq_append_getElem hil).symm
    have hj := join_of (k + 150 + 2 * d + 1) (by omega) (l.take i) [l[i]] (hb.take i) hx (by rw [List.length_take]; simp; omega)
    have hi2 := ih k (i + 1) (by omega)
    rw [show k + 150 + 2 * (d + 1) = (k + 150 + 2 * d + 1) + 1 by omega, galleylaw05_WeldBytes.l0, if_pos (by omega), if_pos (by omega), s1, if_pos (by omega), if_pos (by omega)]
    simp only [Int.toNat_natCast]
    rw [ht, weldOf_eq _ hx (by simp), Option.bind_some, hj, Option.bind_some, htt]
    dsimp only
    rw [if_pos rfl]
    by_cases h100 : (i : Int) < 100
    · rw [if_pos h100, if_pos (by omega), weldOf_eq _ (hb.take _) (by rw [List.length_take]; omega), Option.bind_some, galleylaw05_WeldBytes.j1, if_neg (by simp), s1]
      exact hi2
    · rw [if_neg h100, galleylaw05_WeldBytes.j1, if_neg (by decide), s1]
      exact hi2
theorem WeldBytes : galleylaw05_WeldBytes.Pure := by
  intro l hm0 hy0 hw0
  have hb := Byt.of_wf hw0
  have hf : galleylaw05_fixed.f = some true := rfl
  refine ⟨150 + 2 * l.length, ?_⟩
  unfold galleylaw05_WeldBytes.f
  rw [hf, Option.bind_some, if_pos rfl]
  by_cases hl : (l.length : Int) > 268435456
  · rw [if_pos hl]
  · have h := bytes_l0 l hb (by omega) l.length 0 0 (by omega)
    rw [Nat.zero_add, List.take_zero, Int.natCast_zero] at h
    rw [if_neg hl, weldOf_eq [] (fun x hx => by cases hx) (by simp), Option.bind_some]
    exact h
end Go.Proofs.YtaojbcplmdjfnaaDoor.PuWJoins

namespace Go.Proofs.YtaojbcplmdjfnaaDoorW.PrintWords
open Go.ChangeShapes Go.WideShapes
theorem sized_ints {H : Type} {enc : TypeId × Value → H} {P : Program} {W : World} {base : Nat} {spare : Nat → Bool} {held : Bool} {t e : TypeId} {k : IntKind} {a : Option Addr} {len cap : Nat} {d : DataW H} {ps : List MemPlace} {ts : List TypeId} {ds : List (DataW H)} {j : Nat}
    (hsz : (DataW.weightsEach P ts ds).all (· ≤ reachBytes) = true) (ht : ts[j]? = some t) (hd : ds[j]? = some d) (hu : P.underlying t = some (.slice e)) (he : P.underlying e = some (.int k)) (hc : P.cellsOf e = 1) {B : Nat} (hB : P.bytesOf e = B)
    (h : DataW.Trod enc P W base spare held t (.slice a len cap) d ps) : len * B ≤ 140737488351232 := by
  obtain ⟨fuel, hf⟩ := h
  rcases open_ints hu he hc hf with ⟨hcs, _⟩ | ⟨x, l, c, zs, hcs, _, hl, _, hz, hx, _, _⟩
  · simp [Value.cells] at hcs
    obtain ⟨rfl, rfl, rfl⟩ := hcs
    simp
  · simp [Value.cells] at hcs
    obtain ⟨rfl, rfl, rfl⟩ := hcs
    obtain ⟨hx, _⟩ := Prod.mk.inj hx
    subst hx
    have z := sized_slice hsz ht hd hu
    rw [hB] at z
    have hl2 : len ≤ zs.length := by
      rw [hz]
      split
      · exact hl
      · exact Nat.le_refl _
    have h1 : (lits (H := H) k (zs.take len)).length + (lits (H := H) k (zs.drop len)).length = zs.length := by
      simp [lits]
      omega
    rw [h1] at z
    exact Nat.le_trans (Nat.mul_le_mul_right _ hl2) z
end Go.Proofs.YtaojbcplmdjfnaaDoorW.PrintWords
