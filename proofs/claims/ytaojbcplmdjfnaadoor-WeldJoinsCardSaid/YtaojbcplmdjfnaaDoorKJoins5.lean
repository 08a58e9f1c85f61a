/- Part 5 of the lemmas on which the card weldJoins_card stands (its sentence and conditions stand in the last text). Conditions: as each lemma says. -/
import Derived.Test.YtaojbcplmdjfnaaDoorKJoins4
import Derived.SizedLaws
import Derived.ChangeSlices
namespace Go.Proofs.YtaojbcplmdjfnaaDoor.Pr
open Go.RowKit Go.Proofs.YtaojbcplmdjfnaaDoorW.PrintWords Go.Proofs.YtaojbcplmdjfnaaDoorW.PrintLast Go.Proofs.YtaojbcplmdjfnaaDoorW.PrintMore
attribute [local go_sem] max2_int min2_int max_two min_two max_three min_three max_four min_four   -- for this text's walks alone
set_option linter.unusedVariables false
set_option linter.unusedSimpArgs false
mutual
def galleyref05_seam.l0 : Nat → Int → Int → Int → Int → Int → ByteArray → ByteArray → Int → Int → Int → Int → ByteArray → ByteArray → Int → Int → Int → Int → Option (Int × Int × Int × Int)
 | 0, _, _, _, _, _, _, _, _, _, _, _, _, _, _, _, _, _ => none
 | k + 1, x6, x307000, x307001, x307002, x307003, x307004, x307005, x308000, x308001, x308002, x308003, x308004, x308005, x310000, x310001, x310002, x310003 => if x6 ≤ (x307005.size : Int) then (galleyref05_seam.l1 k x6 1 x307000 x307001 x307002 x307003 x307004 x307005 x308000 x308001 x308002 x308003 x308004 x308005 x310000 x310001 x310002 x310003) else (if (x307005.size : Int) > 0 then (if (x308004.size : Int) > 0 then (if 0 ≤ (wrap64 ((x307005.size : Int) - 1)) then (if (wrap64 ((x307005.size : Int) - 1)) < (x307005.size : Int) then (if (bt x307005 (wrap64 ((x307005.size : Int) - 1))) = 13 then (if 0 < (x308004.size : Int) then (if (bt x308004 0) = 10 then (some (x310000, x310001, x310002, 1)) else (some (x310000, x310001, x310002, x310003))) else (none)) else (some (x310000, x310001, x310002, x310003))) else (none)) else (none)) else (some (x310000, x310001, x310002, x310003))) else (some (x310000, x310001, x310002, x310003)))
def galleyref05_seam.l1 : Nat → Int → Int → Int → Int → Int → Int → ByteArray → ByteArray → Int → Int → Int → Int → ByteArray → ByteArray → Int → Int → Int → Int → Option (Int × Int × Int × Int)
 | 0, _, _, _, _, _, _, _, _, _, _, _, _, _, _, _, _, _, _ => none
 | k + 1, x6, x7, x307000, x307001, x307002, x307003, x307004, x307005, x308000, x308001, x308002, x308003, x308004, x308005, x310000, x310001, x310002, x310003 => if x7 ≤ (x308004.size : Int) then (if 0 ≤ (wrap64 ((x307005.size : Int) - x6)) then (if (wrap64 ((x307005.size : Int) - x6)) ≤ (x307005.size : Int) then (if 0 ≤ x7 then (if (x307005.extract ((wrap64 ((x307005.size : Int) - x6)) : Int).toNat x307005.size).size + (x308004.extract 0 (x7 : Int).toNat).size ≤ 9223372036854775807 then (if ((x307005.extract ((wrap64 ((x307005.size : Int) - x6)) : Int).toNat x307005.size) ++ (x308004.extract 0 (x7 : Int).toNat)).size ≤ 9223372036854775807 then ((some (bytesOf ((x307005.extract ((wrap64 ((x307005.size : Int) - x6)) : Int).toNat x307005.size) ++ (x308004.extract 0 (x7 : Int).toNat)) : List Int)).bind fun y310 => ((galleyref02_Long.f k y310 0).bind fun t313 => (if t313 = (wrap64 (x6 + x7)) then ((galleyref02_Of.f k y310 0).bind fun bt314 => ((galleyref05_units.f bt314.1 bt314.2.1 bt314.2.2).bind fun t317 => (galleyref05_seam.l1 k x6 (wrap64 (x7 + 1)) x307000 x307001 x307002 x307003 x307004 x307005 x308000 x308001 x308002 x308003 x308004 x308005 x310000 (wrap64 ((wrap64 (x6 + x7)) - 1)) (wrap64 ((wrap64 (x6 + x7)) - t317)) x310003))) else (galleyref05_seam.l1 k x6 (wrap64 (x7 + 1)) x307000 x307001 x307002 x307003 x307004 x307005 x308000 x308001 x308002 x308003 x308004 x308005 x310000 x310001 x310002 x310003)))) else (none)) else (none)) else (none)) else (none)) else (none)) else (galleyref05_seam.l0 k (wrap64 (x6 + 1)) x307000 x307001 x307002 x307003 x307004 x307005 x308000 x308001 x308002 x308003 x308004 x308005 x310000 x310001 x310002 x310003)
end
def galleyref05_seam.f (k : Nat) (a0_0 : Int) (a0_1 : Int) (a0_2 : Int) (a0_3 : Int) (a0_4 : ByteArray) (a0_5 : ByteArray) (a1_0 : Int) (a1_1 : Int) (a1_2 : Int) (a1_3 : Int) (a1_4 : ByteArray) (a1_5 : ByteArray) : Option (Int × Int × Int × Int) := galleyref05_seam.l0 k 1 a0_0 a0_1 a0_2 a0_3 a0_4 a0_5 a1_0 a1_1 a1_2 a1_3 a1_4 a1_5 0 0 0 0
end Go.Proofs.YtaojbcplmdjfnaaDoor.Pr

namespace Go.Proofs.YtaojbcplmdjfnaaDoor.Pr
open Go.RowKit Go.Proofs.YtaojbcplmdjfnaaDoorW.PrintWords Go.Proofs.YtaojbcplmdjfnaaDoorW.PrintLast Go.Proofs.YtaojbcplmdjfnaaDoorW.PrintMore
attribute [local go_sem] max2_int min2_int max_two min_two max_three min_three max_four min_four   -- for this text's walks alone
set_option linter.unusedVariables false
set_option linter.unusedSimpArgs false
mutual
def galleyref05_Join.j0 : Nat → Bool → Int → Int → Int → Int → ByteArray → ByteArray → Int → Int → Int → Int → ByteArray → ByteArray → Option (Int × Int × Int × Int × ByteArray × ByteArray × Int)
 | 0, _, _, _, _, _, _, _, _, _, _, _, _, _ => none
 | k + 1, x15, x319000, x319001, x319002, x319003, x319004, x319005, x320000, x320001, x320002, x320003, x320004, x320005 => if x15 = true then (some (0, 0, 0, 0, (⟨#[]⟩ : ByteArray), (⟨#[]⟩ : ByteArray), 50)) else (if (wrap64 (x319000 + x320000)) > 268435456 then (some (0, 0, 0, 0, (⟨#[]⟩ : ByteArray), (⟨#[]⟩ : ByteArray), 5)) else ((galleyref05_seam.f k x319000 x319001 x319002 x319003 x319004 x319005 x320000 x320001 x320002 x320003 x320004 x320005).bind fun bt323 => (if (x319004.size : Int) < 3 then (if x319004.size + x320004.size ≤ 9223372036854775807 then ((galleyref05_head.f (x319004 ++ x320004)).bind fun t329 => (galleyref05_Join.j1 k x319000 x319001 x319002 x319003 x319004 x319005 x320000 x320001 x320002 x320003 x320004 x320005 bt323.1 bt323.2.1 bt323.2.2.1 bt323.2.2.2 0 0 0 0 t329 x320005)) else (none)) else (galleyref05_Join.j1 k x319000 x319001 x319002 x319003 x319004 x319005 x320000 x320001 x320002 x320003 x320004 x320005 bt323.1 bt323.2.1 bt323.2.2.1 bt323.2.2.2 0 0 0 0 x319004 x320005))))
def galleyref05_Join.j1 : Nat → Int → Int → Int → Int → ByteArray → ByteArray → Int → Int → Int → Int → ByteArray → ByteArray → Int → Int → Int → Int → Int → Int → Int → Int → ByteArray → ByteArray → Option (Int × Int × Int × Int × ByteArray × ByteArray × Int)
 | 0, _, _, _, _, _, _, _, _, _, _, _, _, _, _, _, _, _, _, _, _, _, _ => none
 | k + 1, x319000, x319001, x319002, x319003, x319004, x319005, x320000, x320001, x320002, x320003, x320004, x320005, x328000, x328001, x328002, x328003, x329000, x329001, x329002, x329003, x329004, x329005 => if (x320005.size : Int) < 3 then (if x319005.size + x320005.size ≤ 9223372036854775807 then ((galleyref05_tail.f (x319005 ++ x320005)).bind fun t330 => ((galleyref05_Valid.f k (wrap64 (x319000 + x320000)) (wrap64 ((wrap64 (x319001 + x320001)) - x328001)) (wrap64 ((wrap64 (x319002 + x320002)) - x328002)) (wrap64 ((wrap64 (x319003 + x320003)) - x328003)) x329004 t330).bind fun t331 => (if t331 = true then (some (wrap64 (x319000 + x320000), wrap64 ((wrap64 (x319001 + x320001)) - x328001), wrap64 ((wrap64 (x319002 + x320002)) - x328002), wrap64 ((wrap64 (x319003 + x320003)) - x328003), x329004, t330, 0)) else (some (0, 0, 0, 0, (⟨#[]⟩ : ByteArray), (⟨#[]⟩ : ByteArray), 50))))) else (none)) else ((galleyref05_Valid.f k (wrap64 (x319000 + x320000)) (wrap64 ((wrap64 (x319001 + x320001)) - x328001)) (wrap64 ((wrap64 (x319002 + x320002)) - x328002)) (wrap64 ((wrap64 (x319003 + x320003)) - x328003)) x329004 x329005).bind fun t332 => (if t332 = true then (some (wrap64 (x319000 + x320000), wrap64 ((wrap64 (x319001 + x320001)) - x328001), wrap64 ((wrap64 (x319002 + x320002)) - x328002), wrap64 ((wrap64 (x319003 + x320003)) - x328003), x329004, x329005, 0)) else (some (0, 0, 0, 0, (⟨#[]⟩ : ByteArray), (⟨#[]⟩ : ByteArray), 50))))
end
def galleyref05_Join.f (k : Nat) (a0_0 : Int) (a0_1 : Int) (a0_2 : Int) (a0_3 : Int) (a0_4 : ByteArray) (a0_5 : ByteArray) (a1_0 : Int) (a1_1 : Int) (a1_2 : Int) (a1_3 : Int) (a1_4 : ByteArray) (a1_5 : ByteArray) : Option (Int × Int × Int × Int × ByteArray × ByteArray × Int) := (galleyref05_Valid.f k a0_0 a0_1 a0_2 a0_3 a0_4 a0_5).bind fun t321 => (if t321 = true then ((galleyref05_Valid.f k a1_0 a1_1 a1_2 a1_3 a1_4 a1_5).bind fun t322 => (galleyref05_Join.j0 k (!t322) a0_0 a0_1 a0_2 a0_3 a0_4 a0_5 a1_0 a1_1 a1_2 a1_3 a1_4 a1_5)) else (galleyref05_Join.j0 k true a0_0 a0_1 a0_2 a0_3 a0_4 a0_5 a1_0 a1_1 a1_2 a1_3 a1_4 a1_5))
end Go.Proofs.YtaojbcplmdjfnaaDoor.Pr

namespace Go.Proofs.YtaojbcplmdjfnaaDoor.Pr
open Go.RowKit Go.Proofs.YtaojbcplmdjfnaaDoorW.PrintWords Go.Proofs.YtaojbcplmdjfnaaDoorW.PrintLast Go.Proofs.YtaojbcplmdjfnaaDoorW.PrintMore
attribute [local go_sem] max2_int min2_int max_two min_two max_three min_three max_four min_four   -- for this text's walks alone
set_option linter.unusedVariables false
set_option linter.unusedSimpArgs false
attribute [local go_sem high] eqA24 eqA26
def galleyref05_Seam.f (k : Nat) (a0_0 : Int) (a0_1 : Int) (a0_2 : Int) (a0_3 : Int) (a0_4 : ByteArray) (a0_5 : ByteArray) (a1_0 : Int) (a1_1 : Int) (a1_2 : Int) (a1_3 : Int) (a1_4 : ByteArray) (a1_5 : ByteArray) : Option (Int × Int × Int × Int × Int) := (galleyref05_Join.f k a0_0 a0_1 a0_2 a0_3 a0_4 a0_5 a1_0 a1_1 a1_2 a1_3 a1_4 a1_5).bind fun bt336 => (if bt336.2.2.2.2.2.2 = 0 then ((galleyref05_seam.f k a0_0 a0_1 a0_2 a0_3 a0_4 a0_5 a1_0 a1_1 a1_2 a1_3 a1_4 a1_5).bind fun bt344 => (some (bt344.1, bt344.2.1, bt344.2.2.1, bt344.2.2.2, 0))) else (some (0, 0, 0, 0, bt336.2.2.2.2.2.2)))
def galleylaw05_WeldAny.j0 : Nat → Bool → Int → Int → Int → Int → ByteArray → ByteArray → Int → Int → Int → Int → ByteArray → ByteArray → Option (Bool)
 | 0, _, _, _, _, _, _, _, _, _, _, _, _, _ => none
 | k + 1, x26, x349000, x349001, x349002, x349003, x349004, x349005, x350000, x350001, x350002, x350003, x350004, x350005 => if x26 = true then (none) else ((weld_Join.f k x349000 x349001 x349002 x349003 x349004 x349005 x350000 x350001 x350002 x350003 x350004 x350005).bind fun bt355 => ((galleyref05_Join.f k x349000 x349001 x349002 x349003 x349004 x349005 x350000 x350001 x350002 x350003 x350004 x350005).bind fun bt363 => ((weld_Seam.f k x349000 x349001 x349002 x349003 x349004 x349005 x350000 x350001 x350002 x350003 x350004 x350005).bind fun bt371 => ((galleyref05_Seam.f k x349000 x349001 x349002 x349003 x349004 x349005 x350000 x350001 x350002 x350003 x350004 x350005).bind fun bt377 => (if ((!(bt355.1 == bt363.1) || (!(bt355.2.1 == bt363.2.1) || (!(bt355.2.2.1 == bt363.2.2.1) || (!(bt355.2.2.2.1 == bt363.2.2.2.1))))) || (!(bt355.2.2.2.2.1.toList == bt363.2.2.2.2.1.toList) || (!(bt355.2.2.2.2.2.1.toList == bt363.2.2.2.2.2.1.toList)))) = true then (none) else (if bt355.2.2.2.2.2.2 = bt363.2.2.2.2.2.2 then (if (!(bt371.1 == bt377.1) || (!(bt371.2.1 == bt377.2.1) || (!(bt371.2.2.1 == bt377.2.2.1) || (!(bt371.2.2.2.1 == bt377.2.2.2.1))))) = true then (none) else (if bt371.2.2.2.2 = bt377.2.2.2.2 then (if bt355.2.2.2.2.2.2 = 0 then ((weld_Valid.f k bt355.1 bt355.2.1 bt355.2.2.1 bt355.2.2.2.1 bt355.2.2.2.2.1 bt355.2.2.2.2.2.1).bind fun t383 => (if t383 = true then (if bt371.1 = 0 then (if bt371.2.1 ≥ 0 then (if bt371.2.1 ≤ 3 then (if bt371.2.2.1 ≥ 0 then (if bt371.2.2.1 ≤ 2 then (if bt371.2.2.2.1 ≥ 0 then (some (decide (bt371.2.2.2.1 ≤ 1))) else (none)) else (none)) else (none)) else (none)) else (none)) else (none)) else (none))) else (some true)) else (none))) else (none)))))))
def galleylaw05_WeldAny.f (k : Nat) (a0_0 : Int) (a0_1 : Int) (a0_2 : Int) (a0_3 : Int) (a0_4 : ByteArray) (a0_5 : ByteArray) (a1_0 : Int) (a1_1 : Int) (a1_2 : Int) (a1_3 : Int) (a1_4 : ByteArray) (a1_5 : ByteArray) : Option (Bool) := (galleylaw05_fixed.f).bind fun t350 => (if t350 = true then ((weld_Valid.f k a0_0 a0_1 a0_2 a0_3 a0_4 a0_5).bind fun t351 => ((galleyref05_Valid.f k a0_0 a0_1 a0_2 a0_3 a0_4 a0_5).bind fun t352 => (if (t351 != t352) = true then (galleylaw05_WeldAny.j0 k true a0_0 a0_1 a0_2 a0_3 a0_4 a0_5 a1_0 a1_1 a1_2 a1_3 a1_4 a1_5) else ((weld_Valid.f k a1_0 a1_1 a1_2 a1_3 a1_4 a1_5).bind fun t353 => ((galleyref05_Valid.f k a1_0 a1_1 a1_2 a1_3 a1_4 a1_5).bind fun t354 => (galleylaw05_WeldAny.j0 k (t353 != t354) a0_0 a0_1 a0_2 a0_3 a0_4 a0_5 a1_0 a1_1 a1_2 a1_3 a1_4 a1_5)))))) else (none))
end Go.Proofs.YtaojbcplmdjfnaaDoor.Pr

namespace Go.Proofs.YtaojbcplmdjfnaaDoor.PuSm
open Go.RowKit Go.Proofs.YtaojbcplmdjfnaaDoor.Pr Go.Proofs.YtaojbcplmdjfnaaDoor.Math Go.Proofs.YtaojbcplmdjfnaaDoor.Ev Go.Proofs.YtaojbcplmdjfnaaDoor.PuSz Go.Proofs.YtaojbcplmdjfnaaDoor.PuMs Go.Proofs.YtaojbcplmdjfnaaDoorW.PrintWords Go.Proofs.YtaojbcplmdjfnaaDoorW.PrintLast Go.Proofs.YtaojbcplmdjfnaaDoorW.PrintMore
set_option linter.unusedVariables false
set_option linter.unusedSimpArgs false
def uL (n : Nat) : Int := if n = 4 then 2 else 1
theorem uL_range (n : Nat) : 1 ≤ uL n ∧ uL n ≤ 2 := by unfold uL; split <;> omega
def swI (k L : Nat) (p : Int × Int) : Int × Int := if k < L then ((L : Int) - 1, (L : Int) - uL L) else p
theorem seamR_swI (A B : List Int) (k : Nat) (h1 : 1 ≤ k) (h2 : k ≤ A.length) : seamR (A.drop (A.length - k)) B = swI k (lg (A.drop (A.length - k) ++ B)) (seamR (A.drop (A.length - (k - 1))) B) := by
  have hd : A.drop (A.length - k) = A[A.length - k] :: A.drop (A.length - (k - 1)) := by
    rw [List.drop_eq_getElem_cons (show A.length - k < A.length by omega), show A.length - k + 1 = A.length - (k - 1) by omega]
  rw [hd, seamR]
  unfold swI uL
  have hl : (A.drop (A.length - (k - 1))).length + 1 = k := by rw [List.length_drop]; omega
  rw [hl]
theorem cut_lg (S B : List Int) (hS : 1 ≤ S.length) (j : Nat) (h1 : 1 ≤ j) (h2 : j ≤ B.length) : lg (S ++ B.take j) = S.length + j ↔ lg (S ++ B) = S.length + j := by
  have e : S ++ B = (S ++ B.take j) ++ B.drop j := by rw [List.append_assoc, List.take_append_drop]
  constructor
  · intro h
    rw [e, lg_append _ _ (by omega), h]
  · intro h
    rw [e] at h
    rw [lg_of_append (S ++ B.take j) (B.drop j) (by omega) (by rw [h, List.length_append, List.length_take]; omega), h]
theorem bt_bo (s : ByteArray) (i : Int) (h : i.toNat < s.size) : bt s i = (bytesOf s).getD i.toNat (-1) := by
  rw [← rd_bytesOf, rd_getD _ _ (by rw [bytesOf_length]; exact h)]
def cutS (A B : List Int) (k j : Nat) : List Int := A.drop (A.length - k) ++ B.take j
theorem cutS_len (A B : List Int) (k j : Nat) (h : k ≤ A.length) (h' : j ≤ B.length) : (cutS A B k j).length = k + j := by unfold cutS; rw [List.length_append, List.length_drop, List.length_take]; omega
theorem cutS_byt {A B : List Int} (hA : Byt A) (hB : Byt B) (k j : Nat) : Byt (cutS A B k j) := (hA.drop _).append (hB.take _)
theorem cutS_lg (A B : List Int) (k j : Nat) (h1 : 1 ≤ k) (h2 : k ≤ A.length) (h3 : 1 ≤ j) (h4 : j ≤ B.length) : lg (cutS A B k j) = k + j ↔ lg (A.drop (A.length - k) ++ B) = k + j := by
  have e : (A.drop (A.length - k)).length = k := by rw [List.length_drop]; omega
  have := cut_lg (A.drop (A.length - k)) B (by omega) j h3 h4
  rw [e] at this
  exact this
theorem cutS_ba (s t : ByteArray) (k j : Nat) (h : k ≤ s.size) : bytesOf (s.extract (((s.size - k : Nat) : Int)).toNat s.size ++ t.extract 0 ((j : Int)).toNat) = cutS (bytesOf s) (bytesOf t) k j := by
  rw [bo_append, Int.toNat_natCast, Int.toNat_natCast, ex_tail, bo_extract, List.drop_zero, Nat.sub_zero, bytesOf_length s |>.symm]
  rfl
section
variable (a0 a1 a2 a3 b0 b1 b2 b3 : Int) (aH aT bH bT : ByteArray)
theorem w_l1_next (k kk j : Nat) (z1 z2 : Int) (h1 : 1 ≤ kk) (h2 : kk ≤ aT.size) (h3 : 1 ≤ j) (h4 : j ≤ bH.size) (hs : aT.size ≤ 3) (ht : bH.size ≤ 3) :
    weld_seam.l1 (k + 10) kk j a0 a1 a2 a3 aH aT b0 b1 b2 b3 bH bT 0 z1 z2 0 =
      (if lg ((bytesOf aT).drop (aT.size - kk) ++ bytesOf bH) = kk + j then weld_seam.l1 (k + 9) kk ((j + 1 : Nat) : Int) a0 a1 a2 a3 aH aT b0 b1 b2 b3 bH bT 0 ((kk + j : Nat) - 1) ((kk + j : Nat) - uL (kk + j)) 0
       else weld_seam.l1 (k + 9) kk ((j + 1 : Nat) : Int) a0 a1 a2 a3 aH aT b0 b1 b2 b3 bH bT 0 z1 z2 0) := by
  have hB := bo_byt bH
  have hA := bo_byt aT
  have hl := cutS_len (bytesOf aT) (bytesOf bH) kk j (by rw [bytesOf_length]; exact h2) (by rw [bytesOf_length]; exact h4)
  have hne : cutS (bytesOf aT) (bytesOf bH) kk j ≠ [] := fun h => by rw [h] at hl; simp at hl; omega
  have hv := val_lg _ (cutS_byt hA hB kk j) hne
  have hc := cutS_lg (bytesOf aT) (bytesOf bH) kk j h1 (by rw [bytesOf_length]; exact h2) h3 (by rw [bytesOf_length]; exact h4)
  rw [bytesOf_length] at hc
  rw [hl, hc] at hv
  have e1 : wrap64 ((aT.size : Int) - (kk : Int)) = ((aT.size - kk : Nat) : Int) := by rw [w64 (by omega) (by omega)]; omega
  have e2 : wrap64 ((j : Int) + 1) = ((j + 1 : Nat) : Int) := by rw [w64 (by omega) (by omega)]; rfl
  have e3 : wrap64 ((kk : Int) + (j : Int)) = ((kk + j : Nat) : Int) := by rw [w64 (by omega) (by omega)]; omega
  have hcb := cutS_ba aT bH kk j h2
  have hvr := val_range (cutS (bytesOf aT) (bytesOf bH) kk j) (cutS_byt hA hB kk j)
  rw [weld_seam.l1, if_pos (by omega), e1, if_pos (by omega), if_pos (by omega), if_pos (by omega)]
  rw [if_pos (by rw [ByteArray.size_extract, ByteArray.size_extract]; omega), if_pos (by rw [← bytesOf_length, hcb, hl]; omega), hcb, o_Value k _ (cutS_byt hA hB kk j), Option.bind_some, e2, e3]
  by_cases hg : lg ((bytesOf aT).drop (aT.size - kk) ++ bytesOf bH) = kk + j
  · rw [if_pos hg, if_pos (hv.1.2 hg)]
    have hu : weld_units.f (val (cutS (bytesOf aT) (bytesOf bH) kk j)) = some (uL (kk + j)) := by
      unfold weld_units.f uL
      have h5 := hv.2 hg
      rw [hc.2 hg] at h5
      by_cases h6 : kk + j = 4
      · rw [if_pos (h5.2 h6), if_pos h6]
      · rw [if_neg (fun c => h6 (h5.1 c)), if_neg h6]
    have hur := uL_range (kk + j)
    rw [hu, Option.bind_some, w64 (n := ((kk + j : Nat) : Int) - 1) (by omega) (by omega), w64 (n := ((kk + j : Nat) : Int) - uL (kk + j)) (by omega) (by omega)]
  · rw [if_neg hg, if_neg (fun c => hg (hv.1.1 c))]
theorem w_l1_end (k kk j : Nat) (z1 z2 : Int) (h1 : kk ≤ 3) (h : bH.size < j) : weld_seam.l1 (k + 1) kk j a0 a1 a2 a3 aH aT b0 b1 b2 b3 bH bT 0 z1 z2 0 = weld_seam.l0 k ((kk + 1 : Nat) : Int) a0 a1 a2 a3 aH aT b0 b1 b2 b3 bH bT 0 z1 z2 0 := by
  rw [weld_seam.l1, if_neg (by omega), w64 (by omega) (by omega)]
  rfl
theorem w_l1 (kk : Nat) (h1 : 1 ≤ kk) (h2 : kk ≤ aT.size) (hs : aT.size ≤ 3) (ht : bH.size ≤ 3) (p : Int × Int) (L : Nat) (hL : lg ((bytesOf aT).drop (aT.size - kk) ++ bytesOf bH) = L) (d : Nat) :
    ∀ (k j : Nat) (z : Int × Int), 1 ≤ j → j + d = bH.size + 1 → z = (if kk < L ∧ L - kk < j then ((L : Int) - 1, (L : Int) - uL L) else p) →
      weld_seam.l1 (k + 10 + d) kk j a0 a1 a2 a3 aH aT b0 b1 b2 b3 bH bT 0 z.1 z.2 0 = weld_seam.l0 (k + 9) ((kk + 1 : Nat) : Int) a0 a1 a2 a3 aH aT b0 b1 b2 b3 bH bT 0 (swI kk L p).1 (swI kk L p).2 0 := by
  have hll : L ≤ kk + bH.size := by
    have := lg_len ((bytesOf aT).drop (aT.size - kk) ++ bytesOf bH)
    rw [hL, List.length_append, List.length_drop, bytesOf_length, bytesOf_length] at this
    omega
  induction d with
  | zero =>
    intro k j z hj hd hz
    rw [show k + 10 + 0 = (k + 9) + 1 from rfl, w_l1_end a0 a1 a2 a3 b0 b1 b2 b3 aH aT bH bT (k + 9) kk j z.1 z.2 (by omega) (by omega)]
    have : z = swI kk L p := by
      rw [hz]
      unfold swI
      by_cases h : kk < L
      · rw [if_pos ⟨h, by omega⟩, if_pos h]
      · rw [if_neg (fun c => h c.1), if_neg h]
    rw [this]
  | succ d ih =>
    intro k j z hj hd hz
    have hn := w_l1_next a0 a1 a2 a3 b0 b1 b2 b3 aH aT bH bT (k + d + 1) kk j z.1 z.2 h1 h2 hj (by omega) hs ht
    rw [show k + 10 + (d + 1) = k + d + 1 + 10 by omega, hn, hL]
    by_cases hg : L = kk + j
    · rw [if_pos hg, ← hg]
      have := ih k (j + 1) ((L : Int) - 1, (L : Int) - uL L) (by omega) (by omega) (by rw [if_pos ⟨by omega, by omega⟩])
      rw [show k + d + 1 + 9 = k + 10 + d by omega]
      exact this
    · rw [if_neg hg]
      have := ih k (j + 1) z (by omega) (by omega) (by
        rw [hz]
        by_cases h : kk < L ∧ L - kk < j
        · rw [if_pos h, if_pos ⟨h.1, by omega⟩]
        · rw [if_neg h, if_neg (fun c => h ⟨c.1, by omega⟩)])
      rw [show k + d + 1 + 9 = k + 10 + d by omega]
      exact this
theorem w_l0_end (k kk : Nat) (z1 z2 : Int) (h : aT.size < kk) (hs : aT.size ≤ 3) (ht : bH.size ≤ 3) : weld_seam.l0 (k + 1) kk a0 a1 a2 a3 aH aT b0 b1 b2 b3 bH bT 0 z1 z2 0 = some (0, z1, z2, seamE (bytesOf aT) (bytesOf bH)) := by
  rw [weld_seam.l0, if_neg (by omega)]
  unfold weld_tailIs.f seamE
  rw [bytesOf_length]
  by_cases ha : (aT.size : Int) > 0
  · have e : wrap64 ((aT.size : Int) - 1) = ((aT.size - 1 : Nat) : Int) := by rw [w64 (by omega) (by omega)]; omega
    rw [if_pos ha, e, if_pos (by omega), if_pos (by omega), Option.bind_some, bt_bo aT _ (by simp; omega)]
    simp only [Int.toNat_natCast, beq_iff_eq]
    by_cases h13 : (bytesOf aT).getD (aT.size - 1) (-1) = 13
    · rw [if_pos h13]
      by_cases hb : (bH.size : Int) > 0
      · rw [if_pos hb, if_pos (by omega), bt_bo bH _ (by simp; omega)]
        simp only [Int.toNat_zero]
        by_cases h10 : (bytesOf bH).getD 0 (-1) = 10
        · rw [if_pos h10, if_pos ⟨h13, h10⟩]
        · rw [if_neg h10, if_neg (fun c => h10 c.2)]
      · rw [if_neg hb, if_neg (fun c => by rw [getD_m1 _ 0 (by rw [bytesOf_length]; omega)] at c; omega)]
    · rw [if_neg h13, if_neg (fun c => h13 c.1)]
  · rw [if_neg ha, Option.bind_some, if_neg (by decide), if_neg (fun c => by rw [getD_m1 _ _ (by rw [bytesOf_length]; omega)] at c; omega)]
theorem w_l0 (hs : aT.size ≤ 3) (ht : bH.size ≤ 3) (d : Nat) : ∀ (k kk : Nat) (z : Int × Int), 1 ≤ kk → kk + d = aT.size + 1 → z = seamR ((bytesOf aT).drop (aT.size - (kk - 1))) (bytesOf bH) →
    weld_seam.l0 (k + 20 + 20 * d) kk a0 a1 a2 a3 aH aT b0 b1 b2 b3 bH bT 0 z.1 z.2 0 = some (0, (seamR (bytesOf aT) (bytesOf bH)).1, (seamR (bytesOf aT) (bytesOf bH)).2, seamE (bytesOf aT) (bytesOf bH)) := by
  induction d with
  | zero =>
    intro k kk z hk hd hz
    rw [show k + 20 + 20 * 0 = (k + 19) + 1 by omega, w_l0_end a0 a1 a2 a3 b0 b1 b2 b3 aH aT bH bT _ kk z.1 z.2 (by omega) hs ht, hz, show aT.size - (kk - 1) = 0 by omega, List.drop_zero]
  | succ d ih =>
    intro k kk z hk hd hz
    have hsw := seamR_swI (bytesOf aT) (bytesOf bH) kk hk (by rw [bytesOf_length]; omega)
    rw [bytesOf_length, ← hz] at hsw
    have h1 := w_l1 a0 a1 a2 a3 b0 b1 b2 b3 aH aT bH bT kk hk (by omega) hs ht z _ rfl bH.size (k + 20 + 20 * d + 9 - bH.size) 1 z (by omega) (by omega) (by rw [if_neg (by omega)])
    have h2 := ih (k + 18 - bH.size) (kk + 1) _ (by omega) (by omega) hsw.symm
    rw [show k + 20 + 20 * (d + 1) = (k + 20 + 20 * d + 9 - bH.size + 10 + bH.size) + 1 by omega, weld_seam.l0, if_pos (by omega)]
    rw [show (1 : Int) = ((1 : Nat) : Int) from rfl, h1, show k + 20 + 20 * d + 9 - bH.size + 9 = k + 18 - bH.size + 20 + 20 * d by omega]
    exact h2
theorem wSeam_eq (k : Nat) (hs : aT.size ≤ 3) (ht : bH.size ≤ 3) (hk : 80 ≤ k) : weld_seam.f k a0 a1 a2 a3 aH aT b0 b1 b2 b3 bH bT = some (0, (seamR (bytesOf aT) (bytesOf bH)).1, (seamR (bytesOf aT) (bytesOf bH)).2, seamE (bytesOf aT) (bytesOf bH)) := by
  unfold weld_seam.f
  have h := w_l0 a0 a1 a2 a3 b0 b1 b2 b3 aH aT bH bT hs ht aT.size (k - 20 - 20 * aT.size) 1 (0, 0) (by omega) (by omega) (by rw [Nat.sub_self, Nat.sub_zero, List.drop_of_length_le (by rw [bytesOf_length]; omega)]; rfl)
  rw [show k - 20 - 20 * aT.size + 20 + 20 * aT.size = k by omega] at h
  exact h
end
end Go.Proofs.YtaojbcplmdjfnaaDoor.PuSm

namespace Go.Proofs.YtaojbcplmdjfnaaDoor.PuJn
open Go.RowKit Go.Proofs.YtaojbcplmdjfnaaDoor.Pr Go.Proofs.YtaojbcplmdjfnaaDoor.Math Go.Proofs.YtaojbcplmdjfnaaDoor.Ev Go.Proofs.YtaojbcplmdjfnaaDoor.PuSz Go.Proofs.YtaojbcplmdjfnaaDoor.PuMs Go.Proofs.YtaojbcplmdjfnaaDoor.PuSm Go.Proofs.YtaojbcplmdjfnaaDoorW.PrintWords Go.Proofs.YtaojbcplmdjfnaaDoorW.PrintLast Go.Proofs.YtaojbcplmdjfnaaDoorW.PrintMore
set_option linter.unusedVariables false
set_option linter.unusedSimpArgs false
def R64 (x : Int) : Prop := -9223372036854775808 ≤ x ∧ x ≤ 9223372036854775807
def vM (a : Ms) : Bool := vldB a.1 a.2.1 a.2.2.1 a.2.2.2.1 (bytesOf a.2.2.2.2.1) (bytesOf a.2.2.2.2.2)
theorem vld_range {n r u e : Int} {H T : List Int} (h : vldB n r u e H T = true) : (0 ≤ n ∧ n ≤ 268435456) ∧ (0 ≤ r ∧ r ≤ n) ∧ (0 ≤ u ∧ u ≤ 2 * n) ∧ (0 ≤ e ∧ e ≤ n) ∧ (H.length : Int) = min 3 n ∧ (T.length : Int) = min 3 n := by
  by_cases hc : n < 0 ∨ n > 268435456 ∨ (H.length : Int) ≠ min 3 n ∨ (T.length : Int) ≠ min 3 n
  · unfold vldB at h; rw [if_pos hc] at h; cases h
  · have hn : 0 ≤ n ∧ n ≤ 268435456 := by omega
    have hh : (H.length : Int) = min 3 n := by omega
    have ht : (T.length : Int) = min 3 n := by omega
    rw [vldB_in n r u e H T hn hh ht] at h
    refine ⟨hn, ?_⟩
    by_cases h6 : n ≤ 6
    · rw [if_pos h6, Bool.and_eq_true, decide_eq_true_eq, decide_eq_true_eq] at h
      obtain ⟨h1, h2, h3, h4⟩ := h
      have hs := ends_six n.toNat (by omega) H T (by omega) (by omega) h1
      generalize H ++ T.drop (H.length + T.length - n.toNat) = B at *
      have q1 := rn_bounds' B
      have q2 := en_bounds' B 0
      omega
    · rw [if_neg h6, decide_eq_true_eq] at h
      omega
def jnM (a b : Ms) : Ms :=
  (a.1 + b.1, a.2.1 + b.2.1 - (seamR (bytesOf a.2.2.2.2.2) (bytesOf b.2.2.2.2.1)).1, a.2.2.1 + b.2.2.1 - (seamR (bytesOf a.2.2.2.2.2) (bytesOf b.2.2.2.2.1)).2, a.2.2.2.1 + b.2.2.2.1 - seamE (bytesOf a.2.2.2.2.2) (bytesOf b.2.2.2.2.1),
    if a.1 < 3 then strOfNums ((bytesOf a.2.2.2.2.1 ++ bytesOf b.2.2.2.2.1).take 3) else a.2.2.2.2.1,
    if b.1 < 3 then strOfNums ((bytesOf a.2.2.2.2.2 ++ bytesOf b.2.2.2.2.2).drop (a.2.2.2.2.2.size + b.2.2.2.2.2.size - 3)) else b.2.2.2.2.2)
def erM (a b : Ms) : Int := if vM a = true ∧ vM b = true then (if a.1 + b.1 > 268435456 then 5 else if vM (jnM a b) = true then 0 else 50) else 50
def joM (a b : Ms) : Ms := if erM a b = 0 then jnM a b else m0
def smM (a b : Ms) : Int × Int × Int := if erM a b = 0 then ((seamR (bytesOf a.2.2.2.2.2) (bytesOf b.2.2.2.2.1)).1, (seamR (bytesOf a.2.2.2.2.2) (bytesOf b.2.2.2.2.1)).2, seamE (bytesOf a.2.2.2.2.2) (bytesOf b.2.2.2.2.1)) else (0, 0, 0)
theorem er_bad {a b : Ms} (h : ¬ (vM a = true ∧ vM b = true)) : erM a b = 50 := by unfold erM; rw [if_neg h]
theorem er_long {a b : Ms} (h : vM a = true ∧ vM b = true) (h' : a.1 + b.1 > 268435456) : erM a b = 5 := by unfold erM; rw [if_pos h, if_pos h']
theorem er_fine {a b : Ms} (h : vM a = true ∧ vM b = true) (h' : ¬ a.1 + b.1 > 268435456) (h2 : vM (jnM a b) = true) : erM a b = 0 := by unfold erM; rw [if_pos h, if_neg h', if_pos h2]
theorem er_not {a b : Ms} (h : vM a = true ∧ vM b = true) (h' : ¬ a.1 + b.1 > 268435456) (h2 : vM (jnM a b) = false) : erM a b = 50 := by unfold erM; rw [if_pos h, if_neg h', if_neg (by rw [h2]; decide)]
section
variable (a0 a1 a2 a3 b0 b1 b2 b3 : Int) (aH aT bH bT : ByteArray)
theorem sum_eq (p0 p1 p2 p3 q0 q1 q2 q3 t : Int) (ht : t = 1 ∨ t = -1) (h0 : 0 ≤ p0 ∧ p0 ≤ 4294967296) (h1 : 0 ≤ p1 ∧ p1 ≤ 4294967296) (h2 : 0 ≤ p2 ∧ p2 ≤ 4294967296) (h3 : 0 ≤ p3 ∧ p3 ≤ 4294967296)
    (g0 : 0 ≤ q0 ∧ q0 ≤ 4294967296) (g1 : 0 ≤ q1 ∧ q1 ≤ 4294967296) (g2 : 0 ≤ q2 ∧ q2 ≤ 4294967296) (g3 : 0 ≤ q3 ∧ q3 ≤ 4294967296) : weld_sum.f p0 p1 p2 p3 q0 q1 q2 q3 t = some (p0 + t * q0, p1 + t * q1, p2 + t * q2, p3 + t * q3) := by
  unfold weld_sum.f
  rcases ht with rfl | rfl
  · simp only [Int.one_mul]
    rw [w64 (n := q0) (by omega) (by omega), w64 (n := q1) (by omega) (by omega), w64 (n := q2) (by omega) (by omega), w64 (n := q3) (by omega) (by omega), w64 (by omega) (by omega), w64 (by omega) (by omega), w64 (by omega) (by omega), w64 (by omega) (by omega)]
  · simp only [Int.neg_mul, Int.one_mul]
    rw [w64 (n := -q0) (by omega) (by omega), w64 (n := -q1) (by omega) (by omega), w64 (n := -q2) (by omega) (by omega), w64 (n := -q3) (by omega) (by omega), w64 (by omega) (by omega), w64 (by omega) (by omega), w64 (by omega) (by omega), w64 (by omega) (by omega)]
def jT (b0 : Int) (aT bT : ByteArray) : ByteArray := if b0 < 3 then strOfNums ((bytesOf aT ++ bytesOf bT).drop (aT.size + bT.size - 3)) else bT
def jH (a0 : Int) (aH bH : ByteArray) : ByteArray := if a0 < 3 then strOfNums ((bytesOf aH ++ bytesOf bH).take 3) else aH
theorem j1_eq (k : Nat) (r0 r1 r2 r3 s0 s1 s2 s3 : Int) (h : ByteArray) (hr1 : R64 r1) (hr2 : R64 r2) (ha : aT.size ≤ 3) (hb : bT.size ≤ 3) :
    weld_both.j1 (k + 2) a0 a1 a2 a3 aH aT b0 b1 b2 b3 bH bT s0 s1 s2 s3 r0 r1 r2 r3 h bT = some (if vM (r0, r1, r2, r3, h, jT b0 aT bT) = true then (r0, r1, r2, r3, h, jT b0 aT bT, s0, s1, s2, s3, 0) else (0, 0, 0, 0, ⟨#[]⟩, ⟨#[]⟩, 0, 0, 0, 0, 50)) := by
  rw [weld_both.j1]
  unfold jT
  by_cases h3 : b0 < 3
  · rw [if_pos h3, if_pos (by omega), tail_eq _ (by rw [← bytesOf_length, bo_append, List.length_append, bytesOf_length, bytesOf_length]; omega), Option.bind_some, if_pos h3]
    have hsz : (aT ++ bT).size = aT.size + bT.size := by rw [← bytesOf_length, bo_append, List.length_append, bytesOf_length, bytesOf_length]
    rw [bo_append, hsz, weldValid_eq k _ _ _ _ _ _ hr1 hr2, Option.bind_some]
    unfold vM
    dsimp only
    split <;> rfl
  · rw [if_neg h3, if_neg h3, weldValid_eq k _ _ _ _ _ _ hr1 hr2, Option.bind_some]
    unfold vM
    dsimp only
    split <;> rfl
set_option maxHeartbeats 2000000 in
theorem both_eq (k : Nat) (hk : 120 ≤ k) (ha1 : R64 a1) (ha2 : R64 a2) (hb1 : R64 b1) (hb2 : R64 b2) :
    weld_both.f k a0 a1 a2 a3 aH aT b0 b1 b2 b3 bH bT = some ((joM (a0, a1, a2, a3, aH, aT) (b0, b1, b2, b3, bH, bT)).1, (joM (a0, a1, a2, a3, aH, aT) (b0, b1, b2, b3, bH, bT)).2.1, (joM (a0, a1, a2, a3, aH, aT) (b0, b1, b2, b3, bH, bT)).2.2.1, (joM (a0, a1, a2, a3, aH, aT) (b0, b1, b2, b3, bH, bT)).2.2.2.1, (joM (a0, a1, a2, a3, aH, aT) (b0, b1, b2, b3, bH, bT)).2.2.2.2.1, (joM (a0, a1, a2, a3, aH, aT) (b0, b1, b2, b3, bH, bT)).2.2.2.2.2,
      0, (smM (a0, a1, a2, a3, aH, aT) (b0, b1, b2, b3, bH, bT)).1, (smM (a0, a1, a2, a3, aH, aT) (b0, b1, b2, b3, bH, bT)).2.1, (smM (a0, a1, a2, a3, aH, aT) (b0, b1, b2, b3, bH, bT)).2.2, erM (a0, a1, a2, a3, aH, aT) (b0, b1, b2, b3, bH, bT)) := by
  obtain ⟨k, rfl⟩ : ∃ m, k = m + 120 := ⟨k - 120, by omega⟩
  generalize hA : ((a0, a1, a2, a3, aH, aT) : Ms) = A
  generalize hB : ((b0, b1, b2, b3, bH, bT) : Ms) = B
  have vA : vldB a0 a1 a2 a3 (bytesOf aH) (bytesOf aT) = vM A := by rw [← hA]; rfl
  have vB : vldB b0 b1 b2 b3 (bytesOf bH) (bytesOf bT) = vM B := by rw [← hB]; rfl
  have hbad : ∀ x : Bool, x = true → ¬ (vM A = true ∧ vM B = true) → weld_both.j0 (k + 120) x a0 a1 a2 a3 aH aT b0 b1 b2 b3 bH bT = some ((joM A B).1, (joM A B).2.1, (joM A B).2.2.1, (joM A B).2.2.2.1, (joM A B).2.2.2.2.1, (joM A B).2.2.2.2.2, 0, (smM A B).1, (smM A B).2.1, (smM A B).2.2, erM A B) := by
    intro x hx hv
    have he := er_bad hv
    have hj : joM A B = m0 := by unfold joM; rw [he]; rfl
    have hs : smM A B = (0, 0, 0) := by unfold smM; rw [he]; rfl
    rw [hj, hs, he, weld_both.j0, if_pos hx]
    rfl
  unfold weld_both.f
  rw [weldValid_eq (k + 119) a0 a1 a2 a3 aH aT ha1 ha2, vA, Option.bind_some]
  by_cases hva : vM A = true
  · rw [if_pos hva, weldValid_eq (k + 119) b0 b1 b2 b3 bH bT hb1 hb2, vB, Option.bind_some]
    by_cases hvb : vM B = true
    · have rA := vld_range (vA.trans hva)
      have rB := vld_range (vB.trans hvb)
      rw [bytesOf_length, bytesOf_length] at rA rB
      have hAB : A.1 = a0 ∧ B.1 = b0 := by rw [← hA, ← hB]; exact ⟨rfl, rfl⟩
      rw [weld_both.j0, hvb, if_neg (by decide), w64 (n := a0 + b0) (by omega) (by omega)]
      by_cases hlong : a0 + b0 > 268435456
      · have he := er_long ⟨hva, hvb⟩ (show A.1 + B.1 > 268435456 by rw [hAB.1, hAB.2]; exact hlong)
        have hj : joM A B = m0 := by unfold joM; rw [he]; rfl
        have hs : smM A B = (0, 0, 0) := by unfold smM; rw [he]; rfl
        rw [if_pos hlong, hj, hs, he]
        rfl
      · have hnl : ¬ A.1 + B.1 > 268435456 := by rw [hAB.1, hAB.2]; exact hlong
        have sr := seamR_range (bytesOf aT) (bytesOf bH)
        have se := seamE_range (bytesOf aT) (bytesOf bH)
        rw [if_neg hlong, wSeam_eq a0 a1 a2 a3 b0 b1 b2 b3 aH aT bH bT (k + 119) (by omega) (by omega) (by omega), Option.bind_some]
        dsimp only
        rw [sum_eq a0 a1 a2 a3 b0 b1 b2 b3 1 (.inl rfl) (by omega) (by omega) (by omega) (by omega) (by omega) (by omega) (by omega) (by omega), Option.bind_some]
        dsimp only
        have e0 : weld_sum.f (a0 + 1 * b0) (a1 + 1 * b1) (a2 + 1 * b2) (a3 + 1 * b3) 0 (seamR (bytesOf aT) (bytesOf bH)).1 (seamR (bytesOf aT) (bytesOf bH)).2 (seamE (bytesOf aT) (bytesOf bH)) (-1) = some (a0 + b0, a1 + b1 - (seamR (bytesOf aT) (bytesOf bH)).1, a2 + b2 - (seamR (bytesOf aT) (bytesOf bH)).2, a3 + b3 - seamE (bytesOf aT) (bytesOf bH)) := by
          rw [sum_eq _ _ _ _ _ _ _ _ (-1) (.inr rfl) (by omega) (by omega) (by omega) (by omega) (by omega) (by omega) (by omega) (by omega)]
          congr 1
          simp only [Int.one_mul, Int.neg_mul, Int.neg_zero, Int.add_zero, Int.sub_eq_add_neg]
        rw [e0, Option.bind_some]
        dsimp only
        have hj := j1_eq a0 a1 a2 a3 b0 b1 b2 b3 aH aT bH bT (k + 117) (a0 + b0) (a1 + b1 - (seamR (bytesOf aT) (bytesOf bH)).1) (a2 + b2 - (seamR (bytesOf aT) (bytesOf bH)).2) (a3 + b3 - seamE (bytesOf aT) (bytesOf bH)) 0 (seamR (bytesOf aT) (bytesOf bH)).1 (seamR (bytesOf aT) (bytesOf bH)).2 (seamE (bytesOf aT) (bytesOf bH)) (jH a0 aH bH) ⟨by omega, by omega⟩ ⟨by omega, by omega⟩ (by omega) (by omega)
        have hJ : jnM A B = (a0 + b0, a1 + b1 - (seamR (bytesOf aT) (bytesOf bH)).1, a2 + b2 - (seamR (bytesOf aT) (bytesOf bH)).2, a3 + b3 - seamE (bytesOf aT) (bytesOf bH), jH a0 aH bH, jT b0 aT bT) := by rw [← hA, ← hB]; rfl
        rw [← hJ] at hj
        have hgo : weld_both.j1 (k + 119) a0 a1 a2 a3 aH aT b0 b1 b2 b3 bH bT 0 (seamR (bytesOf aT) (bytesOf bH)).1 (seamR (bytesOf aT) (bytesOf bH)).2 (seamE (bytesOf aT) (bytesOf bH)) (a0 + b0) (a1 + b1 - (seamR (bytesOf aT) (bytesOf bH)).1) (a2 + b2 - (seamR (bytesOf aT) (bytesOf bH)).2) (a3 + b3 - seamE (bytesOf aT) (bytesOf bH)) (jH a0 aH bH) bT =
            some ((joM A B).1, (joM A B).2.1, (joM A B).2.2.1, (joM A B).2.2.2.1, (joM A B).2.2.2.2.1, (joM A B).2.2.2.2.2, 0, (smM A B).1, (smM A B).2.1, (smM A B).2.2, erM A B) := by
          rw [hj]
          by_cases hvj : vM (jnM A B) = true
          · have he := er_fine ⟨hva, hvb⟩ hnl hvj
            have hjo : joM A B = jnM A B := by unfold joM; rw [if_pos he]
            have hs : smM A B = ((seamR (bytesOf aT) (bytesOf bH)).1, (seamR (bytesOf aT) (bytesOf bH)).2, seamE (bytesOf aT) (bytesOf bH)) := by unfold smM; rw [if_pos he, ← hA, ← hB]
            rw [if_pos hvj, hjo, hs, he, hJ]
          · have he := er_not ⟨hva, hvb⟩ hnl (by simpa using hvj)
            have hjo : joM A B = m0 := by unfold joM; rw [he]; rfl
            have hs : smM A B = (0, 0, 0) := by unfold smM; rw [he]; rfl
            rw [if_neg hvj, hjo, hs, he]
            rfl
        rw [← hgo]
        by_cases h3 : a0 < 3
        · rw [if_pos h3, if_pos (by omega), head_eq', Option.bind_some, bo_append]
          unfold jH
          rw [if_pos h3]
        · rw [if_neg h3]
          unfold jH
          rw [if_neg h3]
    · rw [Bool.not_eq_true] at hvb
      rw [hvb]
      exact hbad _ rfl (fun c => by rw [hvb] at c; cases c.2)
  · rw [if_neg hva]
    exact hbad _ rfl (fun c => hva c.1)
theorem wJoin_eq (k : Nat) (hk : 120 ≤ k) (ha1 : R64 a1) (ha2 : R64 a2) (hb1 : R64 b1) (hb2 : R64 b2) :
    weld_Join.f k a0 a1 a2 a3 aH aT b0 b1 b2 b3 bH bT = some ((joM (a0, a1, a2, a3, aH, aT) (b0, b1, b2, b3, bH, bT)).1, (joM (a0, a1, a2, a3, aH, aT) (b0, b1, b2, b3, bH, bT)).2.1, (joM (a0, a1, a2, a3, aH, aT) (b0, b1, b2, b3, bH, bT)).2.2.1, (joM (a0, a1, a2, a3, aH, aT) (b0, b1, b2, b3, bH, bT)).2.2.2.1, (joM (a0, a1, a2, a3, aH, aT) (b0, b1, b2, b3, bH, bT)).2.2.2.2.1, (joM (a0, a1, a2, a3, aH, aT) (b0, b1, b2, b3, bH, bT)).2.2.2.2.2, erM (a0, a1, a2, a3, aH, aT) (b0, b1, b2, b3, bH, bT)) := by
  unfold weld_Join.f
  rw [both_eq a0 a1 a2 a3 b0 b1 b2 b3 aH aT bH bT k hk ha1 ha2 hb1 hb2]
  rfl
theorem wSeamF_eq (k : Nat) (hk : 120 ≤ k) (ha1 : R64 a1) (ha2 : R64 a2) (hb1 : R64 b1) (hb2 : R64 b2) :
    weld_Seam.f k a0 a1 a2 a3 aH aT b0 b1 b2 b3 bH bT = some (0, (smM (a0, a1, a2, a3, aH, aT) (b0, b1, b2, b3, bH, bT)).1, (smM (a0, a1, a2, a3, aH, aT) (b0, b1, b2, b3, bH, bT)).2.1, (smM (a0, a1, a2, a3, aH, aT) (b0, b1, b2, b3, bH, bT)).2.2, erM (a0, a1, a2, a3, aH, aT) (b0, b1, b2, b3, bH, bT)) := by
  unfold weld_Seam.f
  rw [both_eq a0 a1 a2 a3 b0 b1 b2 b3 aH aT bH bT k hk ha1 ha2 hb1 hb2]
  rfl
end
end Go.Proofs.YtaojbcplmdjfnaaDoor.PuJn

namespace Go.Proofs.YtaojbcplmdjfnaaDoor.PuOf
open Go.RowKit Go.Proofs.YtaojbcplmdjfnaaDoor.Pr Go.Proofs.YtaojbcplmdjfnaaDoor.Math Go.Proofs.YtaojbcplmdjfnaaDoor.Ev Go.Proofs.YtaojbcplmdjfnaaDoor.PuSz Go.Proofs.YtaojbcplmdjfnaaDoor.PuMs Go.Proofs.YtaojbcplmdjfnaaDoor.PuSm Go.Proofs.YtaojbcplmdjfnaaDoor.PuJn Go.Proofs.YtaojbcplmdjfnaaDoorW.PrintWords Go.Proofs.YtaojbcplmdjfnaaDoorW.PrintLast Go.Proofs.YtaojbcplmdjfnaaDoorW.PrintMore
set_option linter.unusedVariables false
set_option linter.unusedSimpArgs false
theorem jn_of (a b : List Int) (ha : Byt a) (hb : Byt b) : jnM (mOf a) (mOf b) = mOf (a ++ b) := by
  have rf := rf_append a b
  have es := en_seam a b
  have e1 : seamR (a.drop (a.length - 3)) (b.take 3) = seamR a b := by rw [← seamR_last, ← seamR_take]
  have e2 : seamE (a.drop (a.length - 3)) (b.take 3) = seamE a b := (seamE_last a b).symm
  have hd : (if (a.length : Int) < 3 then strOfNums ((a.take 3 ++ b.take 3).take 3) else strOfNums (a.take 3)) = strOfNums ((a ++ b).take 3) := by
    by_cases h : (a.length : Int) < 3
    · rw [if_pos h, List.take_of_length_le (show a.length ≤ 3 by omega), List.take_append, List.take_append, List.take_take, show min (3 - a.length) 3 = 3 - a.length by omega]
    · rw [if_neg h, List.take_append_of_le_length (by omega)]
  have tl : (if (b.length : Int) < 3 then strOfNums ((a.drop (a.length - 3) ++ b.drop (b.length - 3)).drop ((a.drop (a.length - 3)).length + (b.drop (b.length - 3)).length - 3)) else strOfNums (b.drop (b.length - 3))) = strOfNums ((a ++ b).drop ((a ++ b).length - 3)) := by
    rw [List.length_append]
    by_cases h : (b.length : Int) < 3
    · rw [if_pos h, show b.length - 3 = 0 by omega, List.drop_zero]
      congr 1
      have e : a ++ b = a.take (a.length - 3) ++ (a.drop (a.length - 3) ++ b) := by rw [← List.append_assoc, List.take_append_drop]
      rw [e, List.drop_append (l₁ := a.take (a.length - 3)), List.drop_of_length_le (l := a.take (a.length - 3)) (by rw [List.length_take]; omega), List.nil_append, List.length_take, List.length_drop]
      congr 1
      omega
    · rw [if_neg h, show a.length + b.length - 3 = a.length + (b.length - 3) by omega, ← List.drop_drop, List.drop_left]
  unfold jnM mOf
  dsimp only
  rw [bo_str _ (ha.drop _), bo_str _ (ha.take 3), bo_str _ (hb.take 3), bo_str _ (hb.drop _), sz_str, sz_str, e1, e2, hd, tl, List.length_append, es, rf.2, rf.1, Int.natCast_add]
theorem vM_of (a : List Int) (ha : Byt a) (hl : a.length ≤ 268435456) : vM (mOf a) = true := by
  unfold vM mOf
  dsimp only
  rw [bo_str _ (ha.take 3), bo_str _ (ha.drop _)]
  exact vld_of a ha hl
theorem er_of (a b : List Int) (ha : Byt a) (hb : Byt b) (hl : a.length + b.length ≤ 268435456) : erM (mOf a) (mOf b) = 0 :=
  er_fine ⟨vM_of a ha (by omega), vM_of b hb (by omega)⟩ (by show ¬ (a.length : Int) + (b.length : Int) > 268435456; omega) (by rw [jn_of a b ha hb]; exact vM_of _ (ha.append hb) (by rw [List.length_append]; omega))
theorem jo_of (a b : List Int) (ha : Byt a) (hb : Byt b) (hl : a.length + b.length ≤ 268435456) : joM (mOf a) (mOf b) = mOf (a ++ b) := by
  unfold joM; rw [if_pos (er_of a b ha hb hl), jn_of a b ha hb]
theorem sm_of (a b : List Int) (ha : Byt a) (hb : Byt b) (hl : a.length + b.length ≤ 268435456) : smM (mOf a) (mOf b) = (rn a + rn b - rn (a ++ b), (rn a + fr a) + (rn b + fr b) - (rn (a ++ b) + fr (a ++ b)), en 0 a + en 0 b - en 0 (a ++ b)) := by
  have rf := rf_append a b
  have es := en_seam a b
  have e1 : seamR (a.drop (a.length - 3)) (b.take 3) = seamR a b := by rw [← seamR_last, ← seamR_take]
  have e2 : seamE (a.drop (a.length - 3)) (b.take 3) = seamE a b := (seamE_last a b).symm
  unfold smM
  rw [if_pos (er_of a b ha hb hl)]
  unfold mOf
  dsimp only
  rw [bo_str _ (ha.drop _), bo_str _ (hb.take 3), e1, e2]
  refine Prod.ext ?_ (Prod.ext ?_ ?_) <;> dsimp only <;> omega
theorem r64_of (a : List Int) (hl : a.length ≤ 4294967296) : R64 (mOf a).2.1 ∧ R64 (mOf a).2.2.1 := by
  have := rn_bounds' a
  unfold R64 mOf
  dsimp only
  omega
theorem join_of (k : Nat) (hk : 120 ≤ k) (a b : List Int) (ha : Byt a) (hb : Byt b) (hl : a.length + b.length ≤ 268435456) :
    weld_Join.f k (mOf a).1 (mOf a).2.1 (mOf a).2.2.1 (mOf a).2.2.2.1 (mOf a).2.2.2.2.1 (mOf a).2.2.2.2.2 (mOf b).1 (mOf b).2.1 (mOf b).2.2.1 (mOf b).2.2.2.1 (mOf b).2.2.2.2.1 (mOf b).2.2.2.2.2 =
      some ((mOf (a ++ b)).1, (mOf (a ++ b)).2.1, (mOf (a ++ b)).2.2.1, (mOf (a ++ b)).2.2.2.1, (mOf (a ++ b)).2.2.2.2.1, (mOf (a ++ b)).2.2.2.2.2, 0) := by
  have ra := r64_of a (by omega)
  have rb := r64_of b (by omega)
  rw [wJoin_eq _ _ _ _ _ _ _ _ _ _ _ _ k hk ra.1 ra.2 rb.1 rb.2]
  have e : ∀ x : List Int, ((mOf x).1, (mOf x).2.1, (mOf x).2.2.1, (mOf x).2.2.2.1, (mOf x).2.2.2.2.1, (mOf x).2.2.2.2.2) = mOf x := fun _ => rfl
  rw [e a, e b, jo_of a b ha hb hl, er_of a b ha hb hl]
theorem seam_of (k : Nat) (hk : 120 ≤ k) (a b : List Int) (ha : Byt a) (hb : Byt b) (hl : a.length + b.length ≤ 268435456) :
    weld_Seam.f k (mOf a).1 (mOf a).2.1 (mOf a).2.2.1 (mOf a).2.2.2.1 (mOf a).2.2.2.2.1 (mOf a).2.2.2.2.2 (mOf b).1 (mOf b).2.1 (mOf b).2.2.1 (mOf b).2.2.2.1 (mOf b).2.2.2.2.1 (mOf b).2.2.2.2.2 =
      some (0, rn a + rn b - rn (a ++ b), (rn a + fr a) + (rn b + fr b) - (rn (a ++ b) + fr (a ++ b)), en 0 a + en 0 b - en 0 (a ++ b), 0) := by
  have ra := r64_of a (by omega)
  have rb := r64_of b (by omega)
  rw [wSeamF_eq _ _ _ _ _ _ _ _ _ _ _ _ k hk ra.1 ra.2 rb.1 rb.2]
  have e : ∀ x : List Int, ((mOf x).1, (mOf x).2.1, (mOf x).2.2.1, (mOf x).2.2.2.1, (mOf x).2.2.2.2.1, (mOf x).2.2.2.2.2) = mOf x := fun _ => rfl
  rw [e a, e b, sm_of a b ha hb hl, er_of a b ha hb hl]
end Go.Proofs.YtaojbcplmdjfnaaDoor.PuOf

namespace Go.Proofs.YtaojbcplmdjfnaaDoor.Pr
open Go.RowKit Go.Proofs.YtaojbcplmdjfnaaDoorW.PrintWords Go.Proofs.YtaojbcplmdjfnaaDoorW.PrintLast Go.Proofs.YtaojbcplmdjfnaaDoorW.PrintMore
attribute [local go_sem] max2_int min2_int max_two min_two max_three min_three max_four min_four   -- for this text's walks alone
set_option linter.unusedVariables false
set_option linter.unusedSimpArgs false
attribute [local go_sem high] eqA26
mutual
def galleylaw05_WeldBytes.l0 : Nat → List Int → Int → Int → Int → Int → Int → Int → ByteArray → ByteArray → Option (Bool)
 | 0, _, _, _, _, _, _, _, _, _ => none
 | k + 1, x0, x18, x19, x461000, x461001, x461002, x461003, x461004, x461005 => if x19 < x18 then (if 0 ≤ x19 then (if x19 ≤ (wrap64 (x19 + 1)) then (if (wrap64 (x19 + 1)) ≤ (x0.length : Int) then ((weld_Of.f ((x0.take ((wrap64 (x19 + 1)) : Int).toNat).drop (x19 : Int).toNat)).bind fun bt462 => ((weld_Join.f k x461000 x461001 x461002 x461003 x461004 x461005 bt462.1 bt462.2.1 bt462.2.2.1 bt462.2.2.2.1 bt462.2.2.2.2.1 bt462.2.2.2.2.2).bind fun bt468 => (if bt468.2.2.2.2.2.2 = 0 then (if x19 < 100 then (if 0 ≤ (wrap64 (x19 + 1)) then ((weld_Of.f (x0.take ((wrap64 (x19 + 1)) : Int).toNat)).bind fun bt477 => (galleylaw05_WeldBytes.j1 k x0 x18 x19 ((!(bt468.1 == bt477.1) || (!(bt468.2.1 == bt477.2.1) || (!(bt468.2.2.1 == bt477.2.2.1) || (!(bt468.2.2.2.1 == bt477.2.2.2.1))))) || (!(bt468.2.2.2.2.1.toList == bt477.2.2.2.2.1.toList) || (!(bt468.2.2.2.2.2.1.toList == bt477.2.2.2.2.2.toList)))) bt468.1 bt468.2.1 bt468.2.2.1 bt468.2.2.2.1 bt468.2.2.2.2.1 bt468.2.2.2.2.2.1)) else (none)) else (galleylaw05_WeldBytes.j1 k x0 x18 x19 false bt468.1 bt468.2.1 bt468.2.2.1 bt468.2.2.2.1 bt468.2.2.2.2.1 bt468.2.2.2.2.2.1)) else (galleylaw05_WeldBytes.j1 k x0 x18 x19 true bt468.1 bt468.2.1 bt468.2.2.1 bt468.2.2.2.1 bt468.2.2.2.2.1 bt468.2.2.2.2.2.1)))) else (none)) else (none)) else (none)) else ((weld_Of.f ([] : List Int)).bind fun bt483 => ((weld_Join.f k x461000 x461001 x461002 x461003 x461004 x461005 bt483.1 bt483.2.1 bt483.2.2.1 bt483.2.2.2.1 bt483.2.2.2.2.1 bt483.2.2.2.2.2).bind fun bt489 => ((weld_Of.f ([] : List Int)).bind fun bt497 => ((weld_Join.f k bt497.1 bt497.2.1 bt497.2.2.1 bt497.2.2.2.1 bt497.2.2.2.2.1 bt497.2.2.2.2.2 x461000 x461001 x461002 x461003 x461004 x461005).bind fun bt503 => (if bt489.2.2.2.2.2.2 = 0 then (if bt503.2.2.2.2.2.2 = 0 then (if ((bt489.1 == x461000 && (bt489.2.1 == x461001 && (bt489.2.2.1 == x461002 && (bt489.2.2.2.1 == x461003)))) && (bt489.2.2.2.2.1.toList == x461004.toList && (bt489.2.2.2.2.2.1.toList == x461005.toList))) = true then (if ((bt503.1 == x461000 && (bt503.2.1 == x461001 && (bt503.2.2.1 == x461002 && (bt503.2.2.2.1 == x461003)))) && (bt503.2.2.2.2.1.toList == x461004.toList && (bt503.2.2.2.2.2.1.toList == x461005.toList))) = true then ((weld_Of.f x0).bind fun bt511 => (some ((x461000 == bt511.1 && (x461001 == bt511.2.1 && (x461002 == bt511.2.2.1 && (x461003 == bt511.2.2.2.1)))) && (x461004.toList == bt511.2.2.2.2.1.toList && (x461005.toList == bt511.2.2.2.2.2.toList))))) else (none)) else (none)) else (none)) else (none))))))
def galleylaw05_WeldBytes.j1 : Nat → List Int → Int → Int → Bool → Int → Int → Int → Int → ByteArray → ByteArray → Option (Bool)
 | 0, _, _, _, _, _, _, _, _, _, _ => none
 | k + 1, x0, x18, x19, x47, x476000, x476001, x476002, x476003, x476004, x476005 => if x47 = true then (none) else (galleylaw05_WeldBytes.l0 k x0 x18 (wrap64 (x19 + 1)) x476000 x476001 x476002 x476003 x476004 x476005)
end
def galleylaw05_WeldBytes.f (k : Nat) (l0 : List Int) : Option (Bool) := (galleylaw05_fixed.f).bind fun t453 => (if t453 = true then (if (l0.length : Int) > 268435456 then (some true) else ((weld_Of.f ([] : List Int)).bind fun bt454 => (galleylaw05_WeldBytes.l0 k l0 (l0.length : Int) 0 bt454.1 bt454.2.1 bt454.2.2.1 bt454.2.2.2.1 bt454.2.2.2.2.1 bt454.2.2.2.2.2))) else (none))
end Go.Proofs.YtaojbcplmdjfnaaDoor.Pr

namespace Go.Proofs.YtaojbcplmdjfnaaDoor.PuWJoins
open Go.RowKit Go.Proofs.YtaojbcplmdjfnaaDoor.Pr Go.Proofs.YtaojbcplmdjfnaaDoor.Math Go.Proofs.YtaojbcplmdjfnaaDoor.Ev Go.Proofs.YtaojbcplmdjfnaaDoor.PuSz Go.Proofs.YtaojbcplmdjfnaaDoor.PuMs Go.Proofs.YtaojbcplmdjfnaaDoor.PuSm Go.Proofs.YtaojbcplmdjfnaaDoor.PuJn Go.Proofs.YtaojbcplmdjfnaaDoor.PuOf Go.Proofs.YtaojbcplmdjfnaaDoorW.PrintWords Go.Proofs.YtaojbcplmdjfnaaDoorW.PrintLast Go.Proofs.YtaojbcplmdjfnaaDoorW.PrintMore
set_option linter.unusedVariables false
set_option linter.unusedSimpArgs false
theorem WeldJoins : galleylaw05_WeldJoins.Pure := by
  intro a b hm0 hy0 hw0 hm1 hy1 hw1
  have ha := Byt.of_wf hw0
  have hb := Byt.of_wf hw1
  have hf : galleylaw05_fixed.f = some true := rfl
  refine ⟨200, ?_⟩
  unfold galleylaw05_WeldJoins.f
  rw [hf, Option.bind_some, if_pos rfl, w64 (by omega) (by omega)]
  by_cases hl : (a.length : Int) + (b.length : Int) > 268435456
  · rw [if_pos hl]
  · rw [if_neg hl, Option.bind_some, if_pos (by simp; omega), Option.bind_some, if_pos (by simp; omega), Option.bind_some, List.nil_append]
    have qa := rn_bounds' a
    have qb := rn_bounds' b
    have qab := rn_bounds' (a ++ b)
    have ea := en_bounds' a 0
    have eb := en_bounds' b 0
    have eab := en_bounds' (a ++ b) 0
    have hlen : (a ++ b).length = a.length + b.length := List.length_append
    rw [weldOf_eq a ha (by omega), Option.bind_some, weldOf_eq b hb (by omega), Option.bind_some, join_of 200 (by omega) a b ha hb (by omega), Option.bind_some, Option.bind_some, Option.bind_some, seam_of 200 (by omega) a b ha hb (by omega), Option.bind_some]
    rw [weldSizes_eq a ha (by omega), Option.bind_some, weldSizes_eq b hb (by omega), Option.bind_some, weldSizes_eq _ (ha.append hb) (by omega), Option.bind_some]
    dsimp only
    rw [if_pos rfl, if_pos rfl, weldOf_eq _ (ha.append hb) (by omega), Option.bind_some, if_pos (by simp), if_pos rfl]
    rw [w64 (n := rn a + rn b) (by omega) (by omega), w64 (by omega) (by omega), if_pos rfl, w64 (n := rn a + fr a + (rn b + fr b)) (by omega) (by omega), w64 (by omega) (by omega), if_pos rfl, w64 (n := en 0 a + en 0 b) (by omega) (by omega), w64 (by omega) (by omega)]
    simp
end Go.Proofs.YtaojbcplmdjfnaaDoor.PuWJoins

namespace Go.Proofs.YtaojbcplmdjfnaaDoorW.PrintWords
open Go.ChangeShapes Go.WideShapes
theorem sized_ints {H : Type} {enc : TypeId × Value → H} {P : Program} {W : World} {base : Nat} {spare : Nat → Bool} {held : Bool} {t e : TypeId} {k : IntKind} {a : Option Addr} {len cap : Nat} {d : DataW H} {ps : List MemPlace} {ts : List TypeId} {ds : List (DataW H)} {j : Nat}
    (hsz : (DataW.weightsEach P ts ds).all (· ≤ reachBytes) = true) (ht : ts[j]? = some t) (hd : ds[j]? = some d) (hu : P.underlying t = some (.slice e)) (he : P.underlying e = some (.int k)) (hc : P.cellsOf e = 1) {B : Nat} (hB : P.bytesOf e = B)
    (h : DataW.Trod enc P W base spare held t (.slice a len cap) d ps) : len * B ≤ 140737488351232 := by
  obtain ⟨fuel, hf⟩ := h
  rcases open_ints hu he hc hf with ⟨hcs, _⟩ | ⟨x, l, c, zs, hcs, _, hl, _, hz, hx, _, _⟩
  · simp [Value.cells] at hcs
    obtain ⟨rfl, rfl, rfl⟩ := hcs
    simp
  · simp [Value.cells] at hcs
    obtain ⟨rfl, rfl, rfl⟩ := hcs
    obtain ⟨hx, _⟩ := Prod.mk.inj hx
    subst hx
    have z := sized_slice hsz ht hd hu
    rw [hB] at z
    have hl2 : len ≤ zs.length := by
      rw [hz]
      split
      · exact hl
      · exact Nat.le_refl _
    have h1 : (lits (H := H) k (zs.take len)).length + (lits (H := H) k (zs.drop len)).length = zs.length := by
      simp [lits]
      omega
    rw [h1] at z
    exact Nat.le_trans (Nat.mul_le_mul_right _ hl2) z
end Go.Proofs.YtaojbcplmdjfnaaDoorW.PrintWords
