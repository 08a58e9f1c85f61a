/- Bytes and strings, the measure of bytes; what the printed Of says, and its reference. Conditions: bytes, lengths that fit, rounds enough. -/
import Derived.Test.YtiolhoaoepgmcaaDoorMeas
import Derived.Test.YtiolhoaoepgmcaaDoorPuSz
import Derived.Test.YtiolhoaoepgmcaaDoorPr2
import Derived.Test.YtiolhoaoepgmcaaDoorPr7
import Derived.Lib.Strings
import Derived.Lib.SmallJoins
namespace Go.Proofs.YtiolhoaoepgmcaaDoor.PuMs
open Go.RowKit Go.Proofs.YtiolhoaoepgmcaaDoor.Pr Go.Proofs.YtiolhoaoepgmcaaDoor.Math Go.Proofs.YtiolhoaoepgmcaaDoor.PuSz Go.Proofs.YtiolhoaoepgmcaaDoorW.PrintWords Go.Proofs.YtiolhoaoepgmcaaDoorW.PrintLast Go.Proofs.YtiolhoaoepgmcaaDoorW.PrintMore
set_option linter.unusedVariables false
set_option linter.unusedSimpArgs false

theorem bo_byt (s : ByteArray) : Byt (bytesOf s) := by
  intro x hx
  unfold bytesOf at hx
  obtain ⟨b, _, rfl⟩ := List.mem_map.1 hx
  have := UInt8.toNat_lt b
  omega
theorem bo_str (l : List Int) (hb : Byt l) : bytesOf (strOfNums l) = l := by
  unfold bytesOf
  rw [strOfNums_data, List.map_map]
  conv => rhs; rw [← List.map_id l]
  apply List.map_congr_left
  intro x hx
  have := hb x hx
  simp [UInt8.toNat_ofNat']
  omega
theorem ba_ext {s t : ByteArray} (h : s.data.toList = t.data.toList) : s = t := by
  cases s; cases t
  simp only [ByteArray.mk.injEq]
  exact Array.toList_inj.1 h
theorem bo_inj {s t : ByteArray} (h : bytesOf s = bytesOf t) : s = t := by
  apply ba_ext
  unfold bytesOf at h
  exact (List.map_inj_right (fun x y e => UInt8.toNat_inj.1 (by omega))).1 h
theorem str_bo (s : ByteArray) : strOfNums (bytesOf s) = s := bo_inj (bo_str _ (bo_byt s))
theorem bo_append (s t : ByteArray) : bytesOf (s ++ t) = bytesOf s ++ bytesOf t := by unfold bytesOf; rw [ByteArray.data_append, Array.toList_append, List.map_append]
theorem bo_extract (s : ByteArray) (a b : Nat) : bytesOf (s.extract a b) = ((bytesOf s).drop a).take (b - a) := by unfold bytesOf; rw [Lib.extract_data, List.map_take, List.map_drop]
theorem tl_eq (s t : ByteArray) : s.toList = t.toList ↔ bytesOf s = bytesOf t := by
  rw [ByteArray.toList_eq, ByteArray.toList_eq]
  constructor
  · intro h; rw [ba_ext h]
  · intro h; rw [bo_inj h]
theorem tl_beq (s t : ByteArray) : (s.toList == t.toList) = decide (bytesOf s = bytesOf t) := by
  rw [Bool.eq_iff_iff, beq_iff_eq, decide_eq_true_eq, tl_eq]
theorem sz_str (l : List Int) : (strOfNums l).size = l.length := strOfNums_size l
theorem ex_head (s : ByteArray) : bytesOf (s.extract 0 (mn 3 (s.size : Int)).toNat) = (bytesOf s).take 3 := by
  rw [bo_extract, List.drop_zero, Nat.sub_zero]
  unfold mn
  split
  · rw [Int.toNat_natCast, List.take_of_length_le (by rw [bytesOf_length]; omega), List.take_of_length_le (by rw [bytesOf_length]; omega)]
  · rfl
theorem ex_tail (s : ByteArray) (a : Nat) : bytesOf (s.extract a s.size) = (bytesOf s).drop a := by
  rw [bo_extract, List.take_of_length_le (by rw [List.length_drop, bytesOf_length]; omega)]
theorem mx_tail (n : Nat) : (mx 0 ((n : Int) - 3)).toNat = n - 3 := by unfold mx; split <;> omega
theorem mx_le (n : Nat) : 0 ≤ mx 0 ((n : Int) - 3) ∧ mx 0 ((n : Int) - 3) ≤ n := by unfold mx; split <;> omega
theorem mn_le (n : Nat) : 0 ≤ mn 3 (n : Int) ∧ mn 3 (n : Int) ≤ n ∧ (mn 3 (n : Int)).toNat = min 3 n := by unfold mn; split <;> omega

theorem rhead_eq (s : ByteArray) : galleyref05_head.f s = some (strOfNums ((bytesOf s).take 3)) := by
  have h := mn_le s.size
  unfold galleyref05_head.f
  rw [if_pos h.1, if_pos h.2.1]
  congr 1
  apply bo_inj
  rw [ex_head, bo_str _ ((bo_byt s).take 3)]
theorem rtail_eq (s : ByteArray) (hs : s.size ≤ 4611686018427387904) : galleyref05_tail.f s = some (strOfNums ((bytesOf s).drop (s.size - 3))) := by
  have h := mx_le s.size
  unfold galleyref05_tail.f
  rw [w64 (by omega) (by omega), if_pos h.1, if_pos h.2]
  congr 1
  apply bo_inj
  rw [mx_tail, ex_tail, bo_str _ ((bo_byt s).drop _)]

/-- The measure of bytes. -/
abbrev Ms := Int × Int × Int × Int × ByteArray × ByteArray
def mOf (l : List Int) : Ms := ((l.length : Int), rn l, rn l + fr l, en 0 l, strOfNums (l.take 3), strOfNums (l.drop (l.length - 3)))
def m0 : Ms := (0, 0, 0, 0, ⟨#[]⟩, ⟨#[]⟩)
theorem mOf_nil : mOf [] = m0 := by
  unfold mOf m0
  rfl
theorem weldOf_eq (l : List Int) (hb : Byt l) (hl : l.length ≤ 268435456) : weld_Of.f l = some (mOf l) := by
  have h := mn_le l.length
  have h' := mx_le l.length
  unfold weld_Of.f
  rw [if_neg (by omega), weldSizes_eq l hb (by omega)]
  simp only [Option.bind_some]
  rw [if_pos h.1, if_pos h.2.1, w64 (by omega) (by omega), if_pos h'.1, if_pos h'.2, mx_tail, h.2.2]
  unfold mOf
  have e : l.take (min 3 l.length) = l.take 3 := by
    by_cases h3 : l.length ≤ 3
    · rw [List.take_of_length_le (by omega), List.take_of_length_le h3]
    · rw [show min 3 l.length = 3 by omega]
  rw [e]
theorem weldOf_long (l : List Int) (hl : 268435456 < l.length) : weld_Of.f l = some m0 := by
  unfold weld_Of.f
  rw [if_pos (by omega)]
  rfl
theorem refOf_eq (k : Nat) (l : List Int) (hb : Byt l) (hl : l.length ≤ 268435456) (hk : 2 * l.length + 12 ≤ k) : galleyref05_Of.f k l = some (mOf l) := by
  unfold galleyref05_Of.f
  rw [if_neg (by omega), refSizes_eq k l hb (by omega) hk]
  simp only [Option.bind_some]
  rw [rhead_eq, rtail_eq _ (by rw [sz_str]; omega)]
  simp only [Option.bind_some]
  rw [bo_str l hb, sz_str]
  rfl
theorem refOf_long (k : Nat) (l : List Int) (hl : 268435456 < l.length) : galleyref05_Of.f k l = some m0 := by
  unfold galleyref05_Of.f
  rw [if_pos (by omega)]
  rfl
end Go.Proofs.YtiolhoaoepgmcaaDoor.PuMs
