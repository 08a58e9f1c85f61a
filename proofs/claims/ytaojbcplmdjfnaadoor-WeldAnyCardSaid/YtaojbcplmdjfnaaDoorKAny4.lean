/- Part 4 of the lemmas on which the card weldAny_card stands (its sentence and conditions stand in the last text). Conditions: as each lemma says. -/
import Derived.Test.YtaojbcplmdjfnaaDoorKAny3
import Derived.Lib.SlBytesConst
import Derived.Outline
namespace Go.Proofs.YtaojbcplmdjfnaaDoor.Ev
open Go.RowKit Go.Proofs.YtaojbcplmdjfnaaDoor.Pr Go.Proofs.YtaojbcplmdjfnaaDoor.Math Go.Proofs.YtaojbcplmdjfnaaDoorW.PrintWords Go.Proofs.YtaojbcplmdjfnaaDoorW.PrintLast
set_option linter.unusedVariables false
set_option linter.unusedSimpArgs false
theorem o_Class (b : Int) (h : 0 ≤ b ∧ b ≤ 255) : octet_Class.f b = some (cls b) := by unfold octet_Class.f; rw [if_pos h]; rfl
theorem o_Need (b : Int) (h : 0 ≤ b ∧ b ≤ 255) : octet_Need.f b = some (need b) := by unfold octet_Need.f; rw [if_pos h]; rfl
theorem o_second (a : Int) (h : 0 ≤ a ∧ a ≤ 255) : octet_second.f a = some (if a = 224 then (160, 191) else if a = 237 then (128, 159) else if a = 240 then (144, 191) else if a = 244 then (128, 143) else if need a > 1 then (128, 191) else (1, 0)) := by
  unfold octet_second.f
  rw [o_Need a h]
  simp only [Option.bind_some]
  (repeat' split) <;> rfl
theorem o_Second (a b : Int) (h : 0 ≤ a ∧ a ≤ 255) : octet_Second.f a b = some (sec a b) := by
  unfold octet_Second.f
  rw [o_second a h]
  simp only [Option.bind_some]
  unfold sec
  (repeat' split) <;> simp_all <;> omega
theorem o_Whole (k : Nat) (l : List Int) (h : Byt l) : octet_Whole.f (k + 9) l = some (whole l) := by
  unfold octet_Whole.f
  match l, h with
  | [], _ => simp [octet_Whole.j0, whole]
  | [x0], h =>
    have b0 := h x0 (by simp)
    simp only [rd, List.length_cons, List.length_nil, Int.toNat_zero, List.getD_cons_zero]
    rw [if_neg (by simp), if_pos (by simp), o_Need x0 b0]
    simp only [Option.bind_some, octet_Whole.j0, drop1, whole]
    by_cases hn : need x0 = 1
    · simp [hn, octet_Whole.l0]
    · simp [hn]
  | [x0, x1], h =>
    have b0 := h x0 (by simp)
    have b1 := h x1 (by simp)
    simp only [rd, List.length_cons, List.length_nil, Int.toNat_zero, List.getD_cons_zero]
    rw [if_neg (by simp), if_pos (by simp), o_Need x0 b0]
    simp only [Option.bind_some, octet_Whole.j0, drop1, whole]
    by_cases hn : need x0 = 2
    · have st := @sec_tail x0 x1
      simp [hn, octet_Whole.l0, rd, o_Second x0 x1 b0, o_Class x1 b1, cls_two x1 b1.1 b1.2, wrap64_in', tl]
      (repeat' split) <;> simp_all
    · simp [hn]
  | [x0, x1, x2], h =>
    have b0 := h x0 (by simp)
    have b1 := h x1 (by simp)
    have b2 := h x2 (by simp)
    simp only [rd, List.length_cons, List.length_nil, Int.toNat_zero, List.getD_cons_zero]
    rw [if_neg (by simp), if_pos (by simp), o_Need x0 b0]
    simp only [Option.bind_some, octet_Whole.j0, drop1, whole]
    by_cases hn : need x0 = 3
    · have st := @sec_tail x0 x1
      simp [hn, octet_Whole.l0, rd, o_Second x0 x1 b0, o_Class x1 b1, cls_two x1 b1.1 b1.2, o_Class x2 b2, cls_two x2 b2.1 b2.2, wrap64_in', tl]
      (repeat' split) <;> simp_all
    · simp [hn]
  | [x0, x1, x2, x3], h =>
    have b0 := h x0 (by simp)
    have b1 := h x1 (by simp)
    have b2 := h x2 (by simp)
    have b3 := h x3 (by simp)
    simp only [rd, List.length_cons, List.length_nil, Int.toNat_zero, List.getD_cons_zero]
    rw [if_neg (by simp), if_pos (by simp), o_Need x0 b0]
    simp only [Option.bind_some, octet_Whole.j0, drop1, whole]
    by_cases hn : need x0 = 4
    · have st := @sec_tail x0 x1
      simp [hn, octet_Whole.l0, rd, o_Second x0 x1 b0, o_Class x1 b1, cls_two x1 b1.1 b1.2, o_Class x2 b2, cls_two x2 b2.1 b2.2, o_Class x3 b3, cls_two x3 b3.1 b3.2, wrap64_in', tl]
      cases hs : sec x0 x1 <;> by_cases h2 : 128 ≤ x2 <;> by_cases h2' : x2 ≤ 191 <;> by_cases h3 : 128 ≤ x3 <;> by_cases h3' : x3 ≤ 191 <;> simp_all <;> split <;> simp_all <;> omega
    · simp [hn]
  | x0 :: x1 :: x2 :: x3 :: x4 :: r, h =>
    have b0 := h x0 (by simp)
    have hl := need_le x0
    simp only [rd, List.length_cons, Int.toNat_zero, List.getD_cons_zero]
    rw [if_neg (by omega), if_pos (by omega), o_Need x0 b0]
    simp only [Option.bind_some, octet_Whole.j0, whole]
    rw [if_pos (by rw [bne_iff_ne]; omega)]
theorem u8_and127 {x : Int} (h₀ : 0 ≤ x) (h₁ : x < 256) : bits .and .u8 x 127 = x % 128 := bits_mask .u8 8 (by decide) wraps_u8 7 (by decide) x h₀ h₁
theorem head_eq {x m n : Int} (h : bits .and .u8 x m = n) (h0 : 0 ≤ n) (h1 : n < 256) : headV x m = n := by unfold headV; rw [h]; exact wrap32_in' (by omega) (by omega)
theorem step_eq {z c : Int} (h0 : 0 ≤ z) (h1 : z < 32768) (hc : 0 ≤ c ∧ c ≤ 255) : stepV z c = z * 64 + c % 64 := by
  unfold stepV
  rw [u8_and63 _ hc.1 (by omega), wrap32_in' (by omega) (by omega), wrap32_in' (by omega) (by omega), i32_or6 _ _ (by omega) (by omega) (by omega) (by omega) (by omega)]
theorem valL_eq (l : List Int) (h : Byt l) (hw : whole l = true) : valL l = some (num l) := by
  match l, h, hw with
  | [], _, hw => simp [whole] at hw
  | [x0], h, hw =>
    have b0 := h x0 (by simp)
    have hn : need x0 = 1 := by simpa [whole] using hw
    have : x0 < 128 := by unfold need at hn; (repeat' split at hn) <;> omega
    simp only [valL, num]
    rw [head_eq (u8_and127 b0.1 (by omega)) (by omega) (by omega)]
    congr 1
    omega
  | [x0, x1], h, hw =>
    have b0 := h x0 (by simp)
    have b1 := h x1 (by simp)
    simp only [valL, num]
    rw [head_eq (u8_and31 _ b0.1 (by omega)) (by omega) (by omega), step_eq (by omega) (by omega) b1]
  | [x0, x1, x2], h, hw =>
    have b0 := h x0 (by simp)
    have b1 := h x1 (by simp)
    have b2 := h x2 (by simp)
    simp only [valL, num]
    rw [head_eq (u8_and15 _ b0.1 (by omega)) (by omega) (by omega), step_eq (by omega) (by omega) b1, step_eq (by omega) (by omega) b2]
  | [x0, x1, x2, x3], h, hw =>
    have b0 := h x0 (by simp)
    have b1 := h x1 (by simp)
    have b2 := h x2 (by simp)
    have b3 := h x3 (by simp)
    simp only [valL, num]
    rw [head_eq (u8_and7 _ b0.1 (by omega)) (by omega) (by omega), step_eq (by omega) (by omega) b1, step_eq (by omega) (by omega) b2, step_eq (by omega) (by omega) b3]
  | _ :: _ :: _ :: _ :: _ :: _, _, hw => simp [whole] at hw
theorem o_Value (k : Nat) (l : List Int) (h : Byt l) : octet_Value.f (k + 9) l = some (val l) := by
  unfold octet_Value.f val
  rw [o_Whole k l h]
  simp only [Option.bind_some]
  split
  · rename_i hw
    exact valL_eq l h hw
  · rfl
theorem num_range (l : List Int) (h : Byt l) (hw : whole l = true) : 0 ≤ num l ∧ num l < 2097152 := by
  match l, h, hw with
  | [], _, hw => simp [whole] at hw
  | [x0], h, hw => have b0 := h x0 (by simp); simp only [num]; omega
  | [x0, x1], h, hw => simp only [num]; omega
  | [x0, x1, x2], h, hw => simp only [num]; omega
  | [x0, x1, x2, x3], h, hw => simp only [num]; omega
  | _ :: _ :: _ :: _ :: _ :: _, _, hw => simp [whole] at hw
theorem val_range (l : List Int) (h : Byt l) : -1 ≤ val l ∧ val l < 2097152 := by
  unfold val
  split
  · rename_i hw
    have := num_range l h hw
    omega
  · omega
theorem whole_iff (l : List Int) (h : Byt l) : whole l = true ↔ l ≠ [] ∧ lg l = l.length := by
  match l, h with
  | [], _ => simp [whole]
  | [x0], h =>
    have b0 := h x0 (by simp)
    simp only [whole, lg, List.length_cons, List.length_nil, decide_eq_true_eq, ne_eq, reduceCtorEq, not_false_eq_true, true_and]
    have := lgT_cases x0 (List.getD [] 0 (-1)) (List.getD [] 1 (-1)) (List.getD [] 2 (-1))
    constructor
    · intro hn
      unfold lgT; rw [if_pos (by unfold need at hn; (repeat' split at hn) <;> omega)]
    · intro hn
      rw [need_1 (by omega)]
  | [x0, x1], h =>
    simp only [whole, lg, List.length_cons, List.length_nil, Bool.and_eq_true, decide_eq_true_eq, ne_eq, reduceCtorEq, not_false_eq_true, true_and, List.getD_cons_zero, List.getD_cons_succ, sec_iff]
    have := lgT_cases x0 x1 (List.getD [] 0 (-1)) (List.getD [] 1 (-1))
    constructor
    · rintro ⟨hn, h1, h2⟩
      have hx : 194 ≤ x0 ∧ x0 < 224 := by unfold need at hn; (repeat' split at hn) <;> omega
      unfold lgT; rw [if_neg (by omega), if_pos (by omega)]
    · intro hn
      rw [need_2 (by omega) (by omega)]
      omega
  | [x0, x1, x2], h =>
    simp only [whole, lg, List.length_cons, List.length_nil, Bool.and_eq_true, decide_eq_true_eq, ne_eq, reduceCtorEq, not_false_eq_true, true_and, List.getD_cons_zero, List.getD_cons_succ, sec_iff, tl_iff]
    constructor
    · rintro ⟨hn, ⟨h1, h2⟩, h3⟩
      have hx : 224 ≤ x0 ∧ x0 < 240 := by unfold need at hn; (repeat' split at hn) <;> omega
      unfold lgT; rw [if_neg (by omega), if_neg (by omega), if_pos (by omega)]
    · intro hn
      unfold lgT at hn
      split at hn
      · omega
      · split at hn
        · omega
        · split at hn
          · rw [need_3 (by omega) (by omega)]; omega
          · split at hn <;> omega
  | [x0, x1, x2, x3], h =>
    simp only [whole, lg, List.length_cons, List.length_nil, Bool.and_eq_true, decide_eq_true_eq, ne_eq, reduceCtorEq, not_false_eq_true, true_and, List.getD_cons_zero, List.getD_cons_succ, sec_iff, tl_iff]
    constructor
    · rintro ⟨hn, ⟨h1, h2⟩, h3, h4⟩
      have hx : 240 ≤ x0 ∧ x0 < 245 := by unfold need at hn; (repeat' split at hn) <;> omega
      unfold lgT; rw [if_neg (by omega), if_neg (by omega), if_neg (by omega), if_pos (by omega)]
    · intro hn
      unfold lgT at hn
      split at hn
      · omega
      · split at hn
        · omega
        · split at hn
          · omega
          · split at hn
            · rw [need_4 (by omega) (by omega)]; omega
            · omega
  | x0 :: x1 :: x2 :: x3 :: x4 :: r, _ =>
    simp only [whole, Bool.false_eq_true, false_iff]
    rintro ⟨_, hn⟩
    have := lg_le (x0 :: x1 :: x2 :: x3 :: x4 :: r)
    rw [hn] at this
    simp at this
theorem val_lg (l : List Int) (h : Byt l) (hn : l ≠ []) : (0 ≤ val l ↔ lg l = l.length) ∧ (lg l = l.length → (val l > 65535 ↔ lg l = 4)) := by
  have hw := whole_iff l h
  unfold val
  by_cases hwl : whole l = true
  · rw [if_pos hwl]
    have hl := (hw.1 hwl).2
    obtain ⟨x, t, rfl⟩ : ∃ x t, l = x :: t := by cases l with | nil => exact absurd rfl hn | cons x t => exact ⟨x, t, rfl⟩
    have hr := ru_facts x t (h x (by simp)).1
    have e : ru (x :: t) = num (x :: t) := by
      unfold ru
      rw [if_neg (by rw [hl]; simp), hl, List.take_length]
    rw [e] at hr
    exact ⟨⟨fun _ => hl, fun _ => hr.2.2.2.1⟩, fun _ => hr.2.2.1⟩
  · rw [if_neg hwl]
    have hne : ¬ lg l = l.length := fun c => hwl (hw.2 ⟨hn, c⟩)
    exact ⟨⟨fun c => by omega, fun c => absurd c hne⟩, fun c => absurd c hne⟩
end Go.Proofs.YtaojbcplmdjfnaaDoor.Ev

namespace Go.Proofs.YtaojbcplmdjfnaaDoor.Pr
open Go.RowKit Go.Proofs.YtaojbcplmdjfnaaDoorW.PrintWords Go.Proofs.YtaojbcplmdjfnaaDoorW.PrintLast Go.Proofs.YtaojbcplmdjfnaaDoorW.PrintMore
attribute [local go_sem] max2_int min2_int max_two min_two max_three min_three max_four min_four   -- for this text's walks alone
set_option linter.unusedVariables false
set_option linter.unusedSimpArgs false
mutual
def galleyref05_seam.l0 : Nat → Int → Int → Int → Int → Int → ByteArray → ByteArray → Int → Int → Int → Int → ByteArray → ByteArray → Int → Int → Int → Int → Option (Int × Int × Int × Int)
 | 0, _, _, _, _, _, _, _, _, _, _, _, _, _, _, _, _, _ => none
 | k + 1, x6, x307000, x307001, x307002, x307003, x307004, x307005, x308000, x308001, x308002, x308003, x308004, x308005, x310000, x310001, x310002, x310003 => if x6 ≤ (x307005.size : Int) then (galleyref05_seam.l1 k x6 1 x307000 x307001 x307002 x307003 x307004 x307005 x308000 x308001 x308002 x308003 x308004 x308005 x310000 x310001 x310002 x310003) else (if (x307005.size : Int) > 0 then (if (x308004.size : Int) > 0 then (if 0 ≤ (wrap64 ((x307005.size : Int) - 1)) then (if (wrap64 ((x307005.size : Int) - 1)) < (x307005.size : Int) then (if (bt x307005 (wrap64 ((x307005.size : Int) - 1))) = 13 then (if 0 < (x308004.size : Int) then (if (bt x308004 0) = 10 then (some (x310000, x310001, x310002, 1)) else (some (x310000, x310001, x310002, x310003))) else (none)) else (some (x310000, x310001, x310002, x310003))) else (none)) else (none)) else (some (x310000, x310001, x310002, x310003))) else (some (x310000, x310001, x310002, x310003)))
def galleyref05_seam.l1 : Nat → Int → Int → Int → Int → Int → Int → ByteArray → ByteArray → Int → Int → Int → Int → ByteArray → ByteArray → Int → Int → Int → Int → Option (Int × Int × Int × Int)
 | 0, _, _, _, _, _, _, _, _, _, _, _, _, _, _, _, _, _, _ => none
 | k + 1, x6, x7, x307000, x307001, x307002, x307003, x307004, x307005, x308000, x308001, x308002, x308003, x308004, x308005, x310000, x310001, x310002, x310003 => if x7 ≤ (x308004.size : Int) then (if 0 ≤ (wrap64 ((x307005.size : Int) - x6)) then (if (wrap64 ((x307005.size : Int) - x6)) ≤ (x307005.size : Int) then (if 0 ≤ x7 then (if (x307005.extract ((wrap64 ((x307005.size : Int) - x6)) : Int).toNat x307005.size).size + (x308004.extract 0 (x7 : Int).toNat).size ≤ 9223372036854775807 then (if ((x307005.extract ((wrap64 ((x307005.size : Int) - x6)) : Int).toNat x307005.size) ++ (x308004.extract 0 (x7 : Int).toNat)).size ≤ 9223372036854775807 then ((some (bytesOf ((x307005.extract ((wrap64 ((x307005.size : Int) - x6)) : Int).toNat x307005.size) ++ (x308004.extract 0 (x7 : Int).toNat)) : List Int)).bind fun y310 => ((galleyref02_Long.f k y310 0).bind fun t313 => (if t313 = (wrap64 (x6 + x7)) then ((galleyref02_Of.f k y310 0).bind fun bt314 => ((galleyref05_units.f bt314.1 bt314.2.1 bt314.2.2).bind fun t317 => (galleyref05_seam.l1 k x6 (wrap64 (x7 + 1)) x307000 x307001 x307002 x307003 x307004 x307005 x308000 x308001 x308002 x308003 x308004 x308005 x310000 (wrap64 ((wrap64 (x6 + x7)) - 1)) (wrap64 ((wrap64 (x6 + x7)) - t317)) x310003))) else (galleyref05_seam.l1 k x6 (wrap64 (x7 + 1)) x307000 x307001 x307002 x307003 x307004 x307005 x308000 x308001 x308002 x308003 x308004 x308005 x310000 x310001 x310002 x310003)))) else (none)) else (none)) else (none)) else (none)) else (none)) else (galleyref05_seam.l0 k (wrap64 (x6 + 1)) x307000 x307001 x307002 x307003 x307004 x307005 x308000 x308001 x308002 x308003 x308004 x308005 x310000 x310001 x310002 x310003)
end
def galleyref05_seam.f (k : Nat) (a0_0 : Int) (a0_1 : Int) (a0_2 : Int) (a0_3 : Int) (a0_4 : ByteArray) (a0_5 : ByteArray) (a1_0 : Int) (a1_1 : Int) (a1_2 : Int) (a1_3 : Int) (a1_4 : ByteArray) (a1_5 : ByteArray) : Option (Int × Int × Int × Int) := galleyref05_seam.l0 k 1 a0_0 a0_1 a0_2 a0_3 a0_4 a0_5 a1_0 a1_1 a1_2 a1_3 a1_4 a1_5 0 0 0 0
def galleyref05_seam.T8 : Bool × List (List Nat × List Nat) := (true, [([], []), ([0], [0]), ([], []), ([2], [2]), ([3], [3]), ([], []), ([4, 5], [4, 5]), ([1, 6], [1, 6]), ([], []), ([8], [8]), ([], []), ([9, 10], [9, 10]), ([7, 11], [7, 11]), ([12], [12]), ([13, 0, 1, 2, 3, 4, 5, 6, 7, 8, 9, 10, 11, 12, 13], [13])])
def galleyref05_seam.B8 : List Nat := [0, 1, 0, 4, 12, 0, 60, 127, 0, 256, 0, 1792, 4095, 8191, 16383]
theorem galleyref05_seam.tab8 : rtab .any (opsOf Tryd.f33 8) = galleyref05_seam.T8 := by kernel_rfl
theorem galleyref05_seam.bits8 : waitsOk galleyref05_seam.T8.2 galleyref05_seam.B8 = true := by kernel_rfl
set_option maxHeartbeats 8000000 in
set_option maxRecDepth 100000 in
theorem galleyref05_seam.calls (k : Nat) (a0_0 : Int) (a0_1 : Int) (a0_2 : Int) (a0_3 : Int) (a0_4 : ByteArray) (a0_5 : ByteArray) (a1_0 : Int) (a1_1 : Int) (a1_2 : Int) (a1_3 : Int) (a1_4 : ByteArray) (a1_5 : ByteArray) (r1 : Int) (r2 : Int) (r3 : Int) (r4 : Int) (w : World) (h : galleyref05_seam.f k a0_0 a0_1 a0_2 a0_3 a0_4 a0_5 a1_0 a1_1 a1_2 a1_3 a1_4 a1_5 = some (r1, r2, r3, r4)) :
  Calls Tryd.prog 33 #[.agg #[.int .i64 a0_0, .int .i64 a0_1, .int .i64 a0_2, .int .i64 a0_3, .string a0_4, .string a0_5], .agg #[.int .i64 a1_0, .int .i64 a1_1, .int .i64 a1_2, .int .i64 a1_3, .string a1_4, .string a1_5]] w fun e w' => e = .returned (.agg #[.int .i64 r1, .int .i64 r2, .int .i64 r3, .int .i64 r4]) ∧ Below w.heap.size w w' := by
 have hu26 := Tryd.underlying26
 have hu24 := Tryd.underlying24
 have HB := Aside0.mk (Below.refl w.heap.size w)
 have H : (galleyref05_seam.l0 k 1 a0_0 a0_1 a0_2 a0_3 a0_4 a0_5 a1_0 a1_1 a1_2 a1_3 a1_4 a1_5 0 0 0 0) = some (r1, r2, r3, r4) := h
 clear h; have H' := Aside0.mk H; clear H
 go_enter Tryd.func33, Tryd.ntmps33
 go_wp2_with (first | ((with_reducible refine gate_dst (N := 2) rfl ?_); (try (refine gate_guard (by rfl) ?_; dsimp only)); refine box_event ?hg (N := 2) ?hd (cs := #[.int .i64 a0_0, .int .i64 a0_1, .int .i64 a0_2, .int .i64 a0_3, .string a0_4, .string a0_5]) (t := 26) ?hr ?_; (case hd => rfl); (case hg => rfl); (case hr => first | (go_simp; done) | (go_simp; rfl)); intro gb306 hg w3 hbox hb; have n0_ := Aside0.mk (below_step (bl HB.out) hb); have n1_ := Aside0.mk (hbox); have n2_ := Aside0.mk ((by rw [hg]; exact (below_size (bl HB.out)) : w.heap.size ≤ gb306)); have n3_ := Aside0.mk ((by rw [hg]; exact (below_size (bl HB.out)) : w.heap.size ≤ gb306)); clear HB; have HB := n0_; have BK306 := n1_; have GW306 := n2_; have GE306 := n3_; clear n0_ n1_ n2_ n3_; clear hb hbox hg) | ((with_reducible refine gate_dst (N := 3) rfl ?_); (try (refine gate_guard (by rfl) ?_; dsimp only)); refine box_event ?hg (N := 3) ?hd (cs := #[.int .i64 a1_0, .int .i64 a1_1, .int .i64 a1_2, .int .i64 a1_3, .string a1_4, .string a1_5]) (t := 26) ?hr ?_; (case hd => rfl); (case hg => rfl); (case hr => first | (go_simp; done) | (go_simp; rfl)); intro gb307 hg w4 hbox hb; have n0_ := Aside0.mk (blk_below (pl BK306.out) hb); have n1_ := Aside0.mk (below_step (by repeat (first | (with_reducible first | exact HB.out | apply below_alloc | apply pw_below_drewN | apply below_drew1 | refine below_set ?_ GE306.out) | exact HB.out)) hb); have n2_ := Aside0.mk (hbox); have n3_ := Aside0.mk ((by rw [hg]; exact (below_size (by repeat (first | (with_reducible first | exact HB.out | apply below_alloc | apply pw_below_drewN | apply below_drew1 | refine below_set ?_ GE306.out) | exact HB.out))) : w.heap.size ≤ gb307)); have n4_ := Aside0.mk ((by rw [hg]; exact (below_size (by repeat (first | (with_reducible first | exact HB.out | apply below_alloc | apply pw_below_drewN | apply below_drew1 | refine below_set ?_ GE306.out) | exact HB.out))) : w.heap.size ≤ gb307)); have n5_ := Aside0.mk ((by rw [hg]; exact Nat.ne_of_lt (blk_lt (pl BK306.out)) : gb306 ≠ gb307)); have n6_ := Aside0.mk ((by rw [hg]; exact Nat.ne_of_gt (blk_lt (pl BK306.out)) : gb307 ≠ gb306)); clear BK306; clear HB; have BK306 := n0_; have HB := n1_; have BK307 := n2_; have GW307 := n3_; have GE307 := n4_; have NB306_307 := n5_; have NB307_306 := n6_; clear n0_ n1_ n2_ n3_ n4_ n5_ n6_; clear hb hbox hg) | ((with_reducible refine gate_dst (N := 4) rfl ?_); (try (refine gate_guard (by rfl) ?_; dsimp only)); refine box_event ?hg (N := 4) ?hd (cs := #[.int .i64 0, .int .i64 0, .int .i64 0, .int .i64 0]) (t := 24) ?hr ?_; (case hd => rfl); (case hg => rfl); (case hr => first | (go_simp; done) | (go_simp; rfl)); intro gb308 hg w5 hbox hb; have n0_ := Aside0.mk (blk_below (pl BK306.out) hb); have n1_ := Aside0.mk (blk_below (pl BK307.out) hb); have n2_ := Aside0.mk (below_step (by repeat (first | (with_reducible first | exact HB.out | apply below_alloc | apply pw_below_drewN | apply below_drew1 | refine below_set ?_ GE306.out | refine below_set ?_ GE307.out) | exact HB.out)) hb); have n3_ := Aside0.mk (hbox); have n4_ := Aside0.mk ((by rw [hg]; exact (below_size (by repeat (first | (with_reducible first | exact HB.out | apply below_alloc | apply pw_below_drewN | apply below_drew1 | refine below_set ?_ GE306.out | refine below_set ?_ GE307.out) | exact HB.out))) : w.heap.size ≤ gb308)); have n5_ := Aside0.mk ((by rw [hg]; exact (below_size (by repeat (first | (with_reducible first | exact HB.out | apply below_alloc | apply pw_below_drewN | apply below_drew1 | refine below_set ?_ GE306.out | refine below_set ?_ GE307.out) | exact HB.out))) : w.heap.size ≤ gb308)); have n6_ := Aside0.mk ((by rw [hg]; exact Nat.ne_of_lt (blk_lt (pl BK306.out)) : gb306 ≠ gb308)); have n7_ := Aside0.mk ((by rw [hg]; exact Nat.ne_of_gt (blk_lt (pl BK306.out)) : gb308 ≠ gb306)); have n8_ := Aside0.mk ((by rw [hg]; exact Nat.ne_of_lt (blk_lt (pl BK307.out)) : gb307 ≠ gb308)); have n9_ := Aside0.mk ((by rw [hg]; exact Nat.ne_of_gt (blk_lt (pl BK307.out)) : gb308 ≠ gb307)); clear BK306; clear BK307; clear HB; have BK306 := n0_; have BK307 := n1_; have HB := n2_; have BK308 := n3_; have GW308 := n4_; have GE308 := n5_; have NB306_308 := n6_; have NB308_306 := n7_; have NB307_308 := n8_; have NB308_307 := n9_; clear n0_ n1_ n2_ n3_ n4_ n5_ n6_ n7_ n8_ n9_; clear hb hbox hg) | ((with_reducible refine gate_dst (N := 5) rfl ?_); (try (refine gate_guard (by rfl) ?_; dsimp only)); refine box_event ?hg (N := 5) ?hd (cs := #[.int .i64 0, .int .i64 0, .int .i64 0, .int .i64 0]) (t := 24) ?hr ?_; (case hd => rfl); (case hg => rfl); (case hr => first | (go_simp; done) | (go_simp; rfl)); intro gb309 hg w6 hbox hb; have n0_ := Aside0.mk (blk_below (pl BK306.out) hb); have n1_ := Aside0.mk (blk_below (pl BK307.out) hb); have n2_ := Aside0.mk (blk_below (pl BK308.out) hb); have n3_ := Aside0.mk (below_step (by repeat (first | (with_reducible first | exact HB.out | apply below_alloc | apply pw_below_drewN | apply below_drew1 | refine below_set ?_ GE306.out | refine below_set ?_ GE307.out | refine below_set ?_ GE308.out) | exact HB.out)) hb); have n4_ := Aside0.mk (hbox); have n5_ := Aside0.mk ((by rw [hg]; exact (below_size (by repeat (first | (with_reducible first | exact HB.out | apply below_alloc | apply pw_below_drewN | apply below_drew1 | refine below_set ?_ GE306.out | refine below_set ?_ GE307.out | refine below_set ?_ GE308.out) | exact HB.out))) : w.heap.size ≤ gb309)); have n6_ := Aside0.mk ((by rw [hg]; exact (below_size (by repeat (first | (with_reducible first | exact HB.out | apply below_alloc | apply pw_below_drewN | apply below_drew1 | refine below_set ?_ GE306.out | refine below_set ?_ GE307.out | refine below_set ?_ GE308.out) | exact HB.out))) : w.heap.size ≤ gb309)); have n7_ := Aside0.mk ((by rw [hg]; exact Nat.ne_of_lt (blk_lt (pl BK306.out)) : gb306 ≠ gb309)); have n8_ := Aside0.mk ((by rw [hg]; exact Nat.ne_of_gt (blk_lt (pl BK306.out)) : gb309 ≠ gb306)); have n9_ := Aside0.mk ((by rw [hg]; exact Nat.ne_of_lt (blk_lt (pl BK307.out)) : gb307 ≠ gb309)); have n10_ := Aside0.mk ((by rw [hg]; exact Nat.ne_of_gt (blk_lt (pl BK307.out)) : gb309 ≠ gb307)); have n11_ := Aside0.mk ((by rw [hg]; exact Nat.ne_of_lt (blk_lt (pl BK308.out)) : gb308 ≠ gb309)); have n12_ := Aside0.mk ((by rw [hg]; exact Nat.ne_of_gt (blk_lt (pl BK308.out)) : gb309 ≠ gb308)); clear BK306; clear BK307; clear BK308; clear HB; have BK306 := n0_; have BK307 := n1_; have BK308 := n2_; have HB := n3_; have BK309 := n4_; have GW309 := n5_; have GE309 := n6_; have NB306_309 := n7_; have NB309_306 := n8_; have NB307_309 := n9_; have NB309_307 := n10_; have NB308_309 := n11_; have NB309_308 := n12_; clear n0_ n1_ n2_ n3_ n4_ n5_ n6_ n7_ n8_ n9_ n10_ n11_ n12_; clear hb hbox hg))
 go_loopg [6] k (fun kq v6 w' => ∃ (x6_1 : Int) (x310001_1 : Int) (x310002_1 : Int), v6 = .int .i64 x6_1 ∧ Aside0 (galleyref05_seam.l0 kq x6_1 a0_0 a0_1 a0_2 a0_3 a0_4 a0_5 a1_0 a1_1 a1_2 a1_3 a1_4 a1_5 0 x310001_1 x310002_1 0 = some (r1, r2, r3, r4)) ∧ Aside0 (kq ≤ k) ∧ Aside0 (w'.heap[gb306]? = some (.cells #[.int .i64 a0_0, .int .i64 a0_1, .int .i64 a0_2, .int .i64 a0_3, .string a0_4, .string a0_5] 26 (0, 0))) ∧ Aside0 (w'.heap[gb307]? = some (.cells #[.int .i64 a1_0, .int .i64 a1_1, .int .i64 a1_2, .int .i64 a1_3, .string a1_4, .string a1_5] 26 (0, 0))) ∧ Aside0 (w'.heap[gb308]? = some (.cells #[.int .i64 0, .int .i64 0, .int .i64 0, .int .i64 0] 24 (0, 0))) ∧ Aside0 (w'.heap[gb309]? = some (.cells #[.int .i64 0, .int .i64 x310001_1, .int .i64 x310002_1, .int .i64 0] 24 (0, 0))) ∧ Aside0 (Below w.heap.size w w'))
 case atStart => exact ⟨(1), (0), (0), (by first | rfl | (simp; done) | (simp [*]; done)), H', ⟨Nat.le_refl _⟩, ⟨pl BK306.out⟩, ⟨pl BK307.out⟩, ⟨pl BK308.out⟩, ⟨pl BK309.out⟩, ⟨by repeat (first | (with_reducible first | exact HB.out | apply below_alloc | apply pw_below_drewN | apply below_drew1 | refine below_set ?_ GE306.out | refine below_set ?_ GE307.out | refine below_set ?_ GE308.out | refine below_set ?_ GE309.out) | exact HB.out)⟩⟩
 case round =>
  clear H'
  (try clear p2); (try clear c3)
  obtain ⟨x6_1, x310001_1, x310002_1, rfl, HA, HK1, BK306, BK307, BK308, BK309, HB⟩ := hrel
  cases gk with
  | zero => exact absurd HA.out (by simp [galleyref05_seam.l0])
  | succ k1 =>
   have H := HA.out; clear HA
   simp only [galleyref05_seam.l0] at H
   by_cases c7 : x6_1 ≤ (a0_5.size : Int)
   ·rw [if_pos c7] at H
    have c7b0 : decide (x6_1 ≤ (a0_5.size : Int)) = true := decide_eq_true c7
    clear c7; have H' := Aside0.mk H; clear H; have hnb8 := NB306_307.out; have hnc8 := NB307_306.out; have hnb9 := NB306_308.out; have hnc9 := NB308_306.out; have hnb10 := NB306_309.out; have hnc10 := NB309_306.out; obtain ⟨hcz11_0, hcz11_1, hcz11_2, hcz11_3, hcz11_4, hcz11_5⟩ := c6 BK306.out; obtain ⟨hfz11_0, hfz11_1, hfz11_2, hfz11_3, hfz11_4, hfz11_5⟩ := f6 BK306.out
    go_wp2
    go_loopg [7] k1 (fun kq v7 w' => ∃ (x7_2 : Int) (x310001_2 : Int) (x310002_2 : Int), v7 = .int .i64 x7_2 ∧ Aside0 (galleyref05_seam.l1 kq x6_1 x7_2 a0_0 a0_1 a0_2 a0_3 a0_4 a0_5 a1_0 a1_1 a1_2 a1_3 a1_4 a1_5 0 x310001_2 x310002_2 0 = some (r1, r2, r3, r4)) ∧ Aside0 (kq ≤ k1) ∧ Aside0 (w'.heap[gb306]? = some (.cells #[.int .i64 a0_0, .int .i64 a0_1, .int .i64 a0_2, .int .i64 a0_3, .string a0_4, .string a0_5] 26 (0, 0))) ∧ Aside0 (w'.heap[gb307]? = some (.cells #[.int .i64 a1_0, .int .i64 a1_1, .int .i64 a1_2, .int .i64 a1_3, .string a1_4, .string a1_5] 26 (0, 0))) ∧ Aside0 (w'.heap[gb308]? = some (.cells #[.int .i64 0, .int .i64 0, .int .i64 0, .int .i64 0] 24 (0, 0))) ∧ Aside0 (w'.heap[gb309]? = some (.cells #[.int .i64 0, .int .i64 x310001_2, .int .i64 x310002_2, .int .i64 0] 24 (0, 0))) ∧ Aside0 (Below w.heap.size w w'))
    case atStart => exact ⟨(1), (x310001_1), (x310002_1), (by first | rfl | (simp; done) | (simp [*]; done)), H', ⟨Nat.le_refl _⟩, ⟨pl BK306.out⟩, ⟨pl BK307.out⟩, ⟨pl BK308.out⟩, ⟨pl BK309.out⟩, ⟨by repeat (first | (with_reducible first | exact HB.out | apply below_alloc | apply pw_below_drewN | apply below_drew1 | refine below_set ?_ GE306.out | refine below_set ?_ GE307.out | refine below_set ?_ GE308.out | refine below_set ?_ GE309.out) | exact HB.out)⟩⟩
    case round =>
     clear H'
     (try clear c1); (try clear p2); (try clear c3); (try clear c7); (try clear c7b0); (try clear c8); (try clear c9); (try clear c10); (try clear hcz11_0); (try clear hcz11_1); (try clear hcz11_2); (try clear hcz11_3); (try clear hcz11_4); (try clear hcz11_5); (try clear hfz11_0); (try clear hfz11_1); (try clear hfz11_2); (try clear hfz11_3); (try clear hfz11_4); (try clear hfz11_5); (try clear p2)
     obtain ⟨x7_2, x310001_2, x310002_2, rfl, HA, HK2, BK306, BK307, BK308, BK309, HB⟩ := hrel
     cases gk with
     | zero => exact absurd HA.out (by simp [galleyref05_seam.l1])
     | succ k2 =>
      have H := HA.out; clear HA
      simp only [galleyref05_seam.l1] at H
      by_cases c12 : x7_2 ≤ (a1_4.size : Int)
      ·rw [if_pos c12] at H
       have c12b0 : decide (x7_2 ≤ (a1_4.size : Int)) = true := decide_eq_true c12
       clear c12
       obtain ⟨ji13, hji13⟩ : ∃ j_ : Int, (wrap64 ((a0_5.size : Int) - x6_1)) = j_ := ⟨_, rfl⟩
       replace H : (if 0 ≤ (ji13) then (if (ji13) ≤ (a0_5.size : Int) then (if 0 ≤ x7_2 then (if (a0_5.extract ((ji13) : Int).toNat a0_5.size).size + (a1_4.extract 0 (x7_2 : Int).toNat).size ≤ 9223372036854775807 then (if ((a0_5.extract ((ji13) : Int).toNat a0_5.size) ++ (a1_4.extract 0 (x7_2 : Int).toNat)).size ≤ 9223372036854775807 then ((some (bytesOf ((a0_5.extract ((ji13) : Int).toNat a0_5.size) ++ (a1_4.extract 0 (x7_2 : Int).toNat)) : List Int)).bind fun y310 => ((galleyref02_Long.f k2 y310 0).bind fun t313 => (if t313 = (wrap64 (x6_1 + x7_2)) then ((galleyref02_Of.f k2 y310 0).bind fun bt314 => ((galleyref05_units.f bt314.1 bt314.2.1 bt314.2.2).bind fun t317 => (galleyref05_seam.l1 k2 x6_1 (wrap64 (x7_2 + 1)) a0_0 a0_1 a0_2 a0_3 a0_4 a0_5 a1_0 a1_1 a1_2 a1_3 a1_4 a1_5 0 (wrap64 ((wrap64 (x6_1 + x7_2)) - 1)) (wrap64 ((wrap64 (x6_1 + x7_2)) - t317)) 0))) else (galleyref05_seam.l1 k2 x6_1 (wrap64 (x7_2 + 1)) a0_0 a0_1 a0_2 a0_3 a0_4 a0_5 a1_0 a1_1 a1_2 a1_3 a1_4 a1_5 0 x310001_2 x310002_2 0)))) else (none)) else (none)) else (none)) else (none)) else (none)) = some (r1, r2, r3, r4) := by first | (rw [hji13] at H; exact H) | (simp only [hji13] at H ⊢; exact H)
       have hji13w : (IntKind.i64.wrap ((a0_5.size : Int) - x6_1)) = ji13 := (i64_w _).trans hji13
       by_cases c14 : 0 ≤ (ji13)
       ·rw [if_pos c14] at H
        have c14b0 := eq_true c14
        have c14b1 : decide (0 ≤ (ji13)) = true := decide_eq_true c14
        clear c14
        by_cases c15 : (ji13) ≤ (a0_5.size : Int)
        ·rw [if_pos c15] at H
         have c15b0 := eq_true c15
         have c15b1 : decide ((ji13) ≤ (a0_5.size : Int)) = true := decide_eq_true c15
         clear c15
         by_cases c16 : 0 ≤ x7_2
         ·rw [if_pos c16] at H
          have c16b0 := eq_true c16
          have c16b1 : decide (0 ≤ x7_2) = true := decide_eq_true c16
          clear c16
          have c17b0 := eq_true (of_decide_eq_true (by first | (with_reducible assumption) | assumption) : x7_2 ≤ (a1_4.size : Int))
          by_cases c18 : (a0_5.extract ((ji13) : Int).toNat a0_5.size).size + (a1_4.extract 0 (x7_2 : Int).toNat).size ≤ 9223372036854775807
          ·rw [if_pos c18] at H
           have c18b0 := eq_true c18
           have c18b1 : decide ((a0_5.extract ((ji13) : Int).toNat a0_5.size).size + (a1_4.extract 0 (x7_2 : Int).toNat).size ≤ 9223372036854775807) = true := decide_eq_true c18
           try have c18b2 : (9223372036854775807 < (a0_5.extract ((ji13) : Int).toNat a0_5.size).size + (a1_4.extract 0 (x7_2 : Int).toNat).size) = False := eq_false (Nat.not_lt.2 c18)
           have c18b3 : (9223372036854775807 < a0_5.size - ji13.toNat + x7_2.toNat) = False := eq_false (by have z_ := c18; have z2_ : x7_2 ≤ (a1_4.size : Int) := of_decide_eq_true (by first | (with_reducible assumption) | assumption); simp only [ByteArray.size_extract] at z_; omega)
           by_cases c19 : ((a0_5.extract ((ji13) : Int).toNat a0_5.size) ++ (a1_4.extract 0 (x7_2 : Int).toNat)).size ≤ 9223372036854775807
           ·rw [if_pos c19] at H
            have c19b0 := eq_true c19
            have c19b1 : decide (((a0_5.extract ((ji13) : Int).toNat a0_5.size) ++ (a1_4.extract 0 (x7_2 : Int).toNat)).size ≤ 9223372036854775807) = true := decide_eq_true c19
            try have c19b2 : (9223372036854775807 < ((a0_5.extract ((ji13) : Int).toNat a0_5.size) ++ (a1_4.extract 0 (x7_2 : Int).toNat)).size) = False := eq_false (Nat.not_lt.2 c19)
            obtain ⟨y310, hy310⟩ : ∃ y_ : List Int, y_ = (bytesOf ((a0_5.extract ((ji13) : Int).toNat a0_5.size) ++ (a1_4.extract 0 (x7_2 : Int).toNat))) := ⟨_, rfl⟩
            replace H : ((galleyref02_Long.f k2 y310 0).bind fun t313 => (if t313 = (wrap64 (x6_1 + x7_2)) then ((galleyref02_Of.f k2 y310 0).bind fun bt314 => ((galleyref05_units.f bt314.1 bt314.2.1 bt314.2.2).bind fun t317 => (galleyref05_seam.l1 k2 x6_1 (wrap64 (x7_2 + 1)) a0_0 a0_1 a0_2 a0_3 a0_4 a0_5 a1_0 a1_1 a1_2 a1_3 a1_4 a1_5 0 (wrap64 ((wrap64 (x6_1 + x7_2)) - 1)) (wrap64 ((wrap64 (x6_1 + x7_2)) - t317)) 0))) else (galleyref05_seam.l1 k2 x6_1 (wrap64 (x7_2 + 1)) a0_0 a0_1 a0_2 a0_3 a0_4 a0_5 a1_0 a1_1 a1_2 a1_3 a1_4 a1_5 0 x310001_2 x310002_2 0))) = some (r1, r2, r3, r4) := by first | (rw [hy310]; with_reducible exact H) | (have H2_ := (Option.bind_some _ _).symm.trans H; rw [hy310]; with_reducible exact H2_) | (have H2_ := (Option.bind_some _ _).symm.trans H; with_reducible exact H2_) | with_reducible exact H | (rw [hy310]; exact H) | exact H
            have Ny310 := Aside0.mk hy310; clear hy310
            replace H := Option.bind_eq_some_iff.mp H
            obtain ⟨t313, A200, H⟩ := H
            replace H : (if t313 = (wrap64 (x6_1 + x7_2)) then ((galleyref02_Of.f k2 y310 0).bind fun bt314 => ((galleyref05_units.f bt314.1 bt314.2.1 bt314.2.2).bind fun t317 => (galleyref05_seam.l1 k2 x6_1 (wrap64 (x7_2 + 1)) a0_0 a0_1 a0_2 a0_3 a0_4 a0_5 a1_0 a1_1 a1_2 a1_3 a1_4 a1_5 0 (wrap64 ((wrap64 (x6_1 + x7_2)) - 1)) (wrap64 ((wrap64 (x6_1 + x7_2)) - t317)) 0))) else (galleyref05_seam.l1 k2 x6_1 (wrap64 (x7_2 + 1)) a0_0 a0_1 a0_2 a0_3 a0_4 a0_5 a1_0 a1_1 a1_2 a1_3 a1_4 a1_5 0 x310001_2 x310002_2 0)) = some (r1, r2, r3, r4) := H
            have A20 := Aside0.mk A200; clear A200
            by_cases c21 : t313 = (wrap64 (x6_1 + x7_2))
            ·rw [if_pos c21] at H
             have c21b0 : (t313 == (wrap64 (x6_1 + x7_2))) = true := beq_iff_eq.mpr c21
             have c21b1 : (t313 != (wrap64 (x6_1 + x7_2))) = false := bne_eq_false_iff_eq.mpr c21
             clear c21
             replace H := Option.bind_eq_some_iff.mp H
             obtain ⟨⟨t314, t315, t316⟩, A220, H⟩ := H
             replace H : ((galleyref05_units.f t314 t315 t316).bind fun t317 => (galleyref05_seam.l1 k2 x6_1 (wrap64 (x7_2 + 1)) a0_0 a0_1 a0_2 a0_3 a0_4 a0_5 a1_0 a1_1 a1_2 a1_3 a1_4 a1_5 0 (wrap64 ((wrap64 (x6_1 + x7_2)) - 1)) (wrap64 ((wrap64 (x6_1 + x7_2)) - t317)) 0)) = some (r1, r2, r3, r4) := H
             have A22 := Aside0.mk A220; clear A220
             replace H := Option.bind_eq_some_iff.mp H
             obtain ⟨t317, A230, H⟩ := H
             replace H : (galleyref05_seam.l1 k2 x6_1 (wrap64 (x7_2 + 1)) a0_0 a0_1 a0_2 a0_3 a0_4 a0_5 a1_0 a1_1 a1_2 a1_3 a1_4 a1_5 0 (wrap64 ((wrap64 (x6_1 + x7_2)) - 1)) (wrap64 ((wrap64 (x6_1 + x7_2)) - t317)) 0) = some (r1, r2, r3, r4) := H
             have A23 := Aside0.mk A230; clear A230; have H' := Aside0.mk H; clear H; have hnb24 := NB307_306.out; have hnc24 := NB306_307.out; have hnb25 := NB307_308.out; have hnc25 := NB308_307.out; have hnb26 := NB307_309.out; have hnc26 := NB309_307.out; obtain ⟨hcz27_0, hcz27_1, hcz27_2, hcz27_3, hcz27_4, hcz27_5⟩ := c6 BK307.out; obtain ⟨hfz27_0, hfz27_1, hfz27_2, hfz27_3, hfz27_4, hfz27_5⟩ := f6 BK307.out
             try go_wp2
             have n0_ := Aside0.mk (blk_drew BK306.out)
             have n1_ := Aside0.mk (blk_drew BK307.out)
             have n2_ := Aside0.mk (blk_drew BK308.out)
             have n3_ := Aside0.mk (blk_drew BK309.out)
             have n4_ := Aside0.mk (below_drew1 HB.out)
             clear BK306; clear BK307; clear BK308; clear BK309; clear HB; have BK306 := n0_; have BK307 := n1_; have BK308 := n2_; have BK309 := n3_; have HB := n4_; clear n0_ n1_ n2_ n3_ n4_
             refine start_ (n := 15) (S := fun w' => w'.cell? ⟨gb306, 0, none⟩ = some (.int .i64 a0_0) ∧ w'.cell? ⟨gb306, 1, none⟩ = some (.int .i64 a0_1) ∧ w'.cell? ⟨gb306, 2, none⟩ = some (.int .i64 a0_2) ∧ w'.cell? ⟨gb306, 3, none⟩ = some (.int .i64 a0_3) ∧ w'.cell? ⟨gb306, 4, none⟩ = some (.string a0_4) ∧ w'.cell? ⟨gb306, 5, none⟩ = some (.string a0_5) ∧ w'.cell? ⟨gb307, 0, none⟩ = some (.int .i64 a1_0) ∧ w'.cell? ⟨gb307, 1, none⟩ = some (.int .i64 a1_1) ∧ w'.cell? ⟨gb307, 2, none⟩ = some (.int .i64 a1_2) ∧ w'.cell? ⟨gb307, 3, none⟩ = some (.int .i64 a1_3) ∧ w'.cell? ⟨gb307, 4, none⟩ = some (.string a1_4) ∧ w'.cell? ⟨gb307, 5, none⟩ = some (.string a1_5)) (ds := []) #[false, false, false, false, false, false, false, false, false, false, false, false, false, false, false] (by kernel_rfl) rfl rfl ⟨(blk_cell BK306.out 0).trans rfl, (blk_cell BK306.out 1).trans rfl, (blk_cell BK306.out 2).trans rfl, (blk_cell BK306.out 3).trans rfl, (blk_cell BK306.out 4).trans rfl, (blk_cell BK306.out 5).trans rfl, (blk_cell BK307.out 0).trans rfl, (blk_cell BK307.out 1).trans rfl, (blk_cell BK307.out 2).trans rfl, (blk_cell BK307.out 3).trans rfl, (blk_cell BK307.out 4).trans rfl, (blk_cell BK307.out 5).trans rfl⟩ (fun hHeld => ?_); refine with_tabW galleyref05_seam.tab8 galleyref05_seam.bits8 (fun HT_ HW_ => ?_)
             generalize wr.drew = w28 at BK306 BK307 BK308 BK309 HB hHeld ⊢
             refine pure_ (i := 0) (N := some 23) (v := ?_) (a' := ?_) #[true, false, false, false, false, false, false, false, false, false, false, false, false, false, false] rfl rfl (any_of HT_.out (by kernel_rfl)) (fun _ _ _ h => h) (Or.inl ⟨by rfl, ?_⟩) ?_ ?_
             rotate_left
             ·intro w'
              go_simp
              with_reducible rfl
             rotate_left
             ·simp only [Act.put, List.setIfInBounds_toArray, List.set_cons_zero, List.set_cons_succ, i64_w, i32_w]
              rfl
             refine pure_ (i := 2) (N := some 25) (v := ?_) (a' := ?_) #[true, false, true, false, false, false, false, false, false, false, false, false, false, false, false] rfl rfl (any_of HT_.out (by kernel_rfl)) (fun _ _ _ h => h) (Or.inl ⟨by rfl, ?_⟩) ?_ ?_
             rotate_left
             ·intro w'
              go_simp
              with_reducible rfl
             rotate_left
             ·simp only [Act.put, List.setIfInBounds_toArray, List.set_cons_zero, List.set_cons_succ, i64_w, i32_w]
              rfl
             refine pure_ (i := 5) (N := some 28) (v := ?_) (a' := ?_) #[true, false, true, false, false, true, false, false, false, false, false, false, false, false, false] rfl rfl (any_of HT_.out (by kernel_rfl)) (fun _ _ _ h => h) (Or.inl ⟨by rfl, ?_⟩) ?_ ?_
             rotate_left
             ·intro w'
              go_simp
              with_reducible rfl
             rotate_left
             ·simp only [Act.put, List.setIfInBounds_toArray, List.set_cons_zero, List.set_cons_succ, i64_w, i32_w]
              rfl
             refine pure_ (i := 8) (N := some 31) (v := ?_) (a' := ?_) #[true, false, true, false, false, true, false, false, true, false, false, false, false, false, false] rfl rfl (any_of HT_.out (by kernel_rfl)) (fun _ _ _ h => h) (Or.inl ⟨by rfl, ?_⟩) ?_ ?_
             rotate_left
             ·intro w'
              go_simp
              with_reducible rfl
             rotate_left
             ·simp only [Act.put, List.setIfInBounds_toArray, List.set_cons_zero, List.set_cons_succ, i64_w, i32_w]
              rfl
             refine pure_ (i := 10) (N := some 33) (v := ?_) (a' := ?_) #[true, false, true, false, false, true, false, false, true, false, true, false, false, false, false] rfl rfl (any_of HT_.out (by kernel_rfl)) (fun _ _ _ h => h) (Or.inl ⟨by rfl, ?_⟩) ?_ ?_
             rotate_left
             ·intro w'
              go_simp
              with_reducible rfl
             rotate_left
             ·simp only [Act.put, List.setIfInBounds_toArray, List.set_cons_zero, List.set_cons_succ, i64_w, i32_w]
              rfl
             refine take_ (i := 1) (N := some 24) (v := ?_) (a' := ?_) #[true, true, true, false, false, true, false, false, true, false, true, false, false, false, false] rfl rfl (take_ofW HT_.out HW_.out (by kernel_rfl)) (fun _ _ _ h => h) (Or.inl ⟨by rfl, ?_⟩) hHeld ?_ ?_
             rotate_left
             ·rintro w' ⟨s0, s1, s2, s3, s4, s5, s6, s7, s8, s9, s10, s11⟩
              go_simp
              with_reducible rfl
             rotate_left
             ·simp only [Act.put, List.setIfInBounds_toArray, List.set_cons_zero, List.set_cons_succ, i64_w, i32_w]
              rfl
             refine take_ (i := 3) (N := some 26) (v := ?_) (a' := ?_) #[true, true, true, true, false, true, false, false, true, false, true, false, false, false, false] rfl rfl (take_ofW HT_.out HW_.out (by kernel_rfl)) (fun _ _ _ h => h) (Or.inl ⟨by rfl, ?_⟩) hHeld ?_ ?_
             rotate_left
             ·rintro w' ⟨s0, s1, s2, s3, s4, s5, s6, s7, s8, s9, s10, s11⟩
              go_simp
              with_reducible rfl
             rotate_left
             ·simp only [Act.put, List.setIfInBounds_toArray, List.set_cons_zero, List.set_cons_succ, i64_w, i32_w]
              rfl
             refine pure_ (i := 4) (N := some 27) (v := ?_) (a' := ?_) #[true, true, true, true, true, true, false, false, true, false, true, false, false, false, false] rfl rfl (any_of HT_.out (by kernel_rfl)) (fun _ _ _ h => h) (Or.inl ⟨by rfl, ?_⟩) ?_ ?_
             rotate_left
             ·intro w'
              go_simp
              with_reducible rfl
             rotate_left
             ·simp only [Act.put, List.setIfInBounds_toArray, List.set_cons_zero, List.set_cons_succ, i64_w, i32_w]
              rfl
             refine pure_ (i := 6) (N := some 29) (v := ?_) (a' := ?_) #[true, true, true, true, true, true, true, false, true, false, true, false, false, false, false] rfl rfl (any_of HT_.out (by kernel_rfl)) (fun _ _ _ h => h) (Or.inl ⟨by rfl, ?_⟩) ?_ ?_
             rotate_left
             ·intro w'
              go_simp
              with_reducible rfl
             rotate_left
             ·simp only [Act.put, List.setIfInBounds_toArray, List.set_cons_zero, List.set_cons_succ, i64_w, i32_w]
              rfl
             refine pure_ (i := 7) (N := some 30) (v := ?_) (a' := ?_) #[true, true, true, true, true, true, true, true, true, false, true, false, false, false, false] rfl rfl (any_of HT_.out (by kernel_rfl)) (fun _ _ _ h => h) (Or.inl ⟨by rfl, ?_⟩) ?_ ?_
             rotate_left
             ·intro w'
              go_simp
              with_reducible rfl
             rotate_left
             ·simp only [Act.put, List.setIfInBounds_toArray, List.set_cons_zero, List.set_cons_succ, i64_w, i32_w]
              rfl
             refine take_ (i := 9) (N := some 32) (v := ?_) (a' := ?_) #[true, true, true, true, true, true, true, true, true, true, true, false, false, false, false] rfl rfl (take_ofW HT_.out HW_.out (by kernel_rfl)) (fun _ _ _ h => h) (Or.inl ⟨by rfl, ?_⟩) hHeld ?_ ?_
             rotate_left
             ·rintro w' ⟨s0, s1, s2, s3, s4, s5, s6, s7, s8, s9, s10, s11⟩
              go_simp
              with_reducible rfl
             rotate_left
             ·simp only [Act.put, List.setIfInBounds_toArray, List.set_cons_zero, List.set_cons_succ, i64_w, i32_w]
              rfl
             refine pure_ (i := 11) (N := some 34) (v := ?_) (a' := ?_) #[true, true, true, true, true, true, true, true, true, true, true, true, false, false, false] rfl rfl (any_of HT_.out (by kernel_rfl)) (fun _ _ _ h => h) (Or.inl ⟨by rfl, ?_⟩) ?_ ?_
             rotate_left
             ·intro w'
              go_simp
              with_reducible rfl
             rotate_left
             ·simp only [Act.put, List.setIfInBounds_toArray, List.set_cons_zero, List.set_cons_succ, i64_w, i32_w]
              rfl
             refine pure_ (i := 12) (N := some 35) (v := ?_) (a' := ?_) #[true, true, true, true, true, true, true, true, true, true, true, true, true, false, false] rfl rfl (any_of HT_.out (by kernel_rfl)) (fun _ _ _ h => h) (Or.inl ⟨by rfl, ?_⟩) ?_ ?_
             rotate_left
             ·intro w'
              go_simp
              with_reducible rfl
             rotate_left
             ·simp only [Act.put, List.setIfInBounds_toArray, List.set_cons_zero, List.set_cons_succ, i64_w, i32_w]
              rfl
             refine one_ (i := 13) (N := some 36) #[true, true, true, true, true, true, true, true, true, true, true, true, true, true, false] rfl rfl (one_of HT_.out (by kernel_rfl)) (by decide) (fun K hK => ?_)
             refine Kd.V_bytes_step _ 5 ?hg (N := 36) ?hd (s := ((a0_5.extract ((ji13) : Int).toNat a0_5.size) ++ (a1_4.extract 0 (x7_2 : Int).toNat))) (ok := fun k_ => w28.heap.size ≤ k_) rfl ?hx Tryd.underlying9 Tryd.underlying29 Tryd.underlying5 (Nat.le_refl _) (Below.refl _ _) (Nat.le_refl _) (of_decide_eq_true (by first | (with_reducible assumption) | assumption)) ?_; (case hd => rfl); (case hg => rfl); (case hx => first | rfl | (go_simp; done) | (go_simp; rfl))
             intro v311 w29 ho30 hb hg_ hnew_
             clear hg_ hnew_
             (first | rw [← Ny310.out] at ho30 | (simp only [Int.reduceToNat] at ho30; rw [← Ny310.out] at ho30))
             have n0_ := Aside0.mk (Kd.V_lower (Kd.V_mono (ok' := fun k_ => k_ ≠ gb306 ∧ k_ ≠ gb307 ∧ k_ ≠ gb308 ∧ k_ ≠ gb309) ho30 (fun k_ hk_ => ⟨(Kd.freshB (g := gb306) (o := .cells #[.int .i64 a0_0, .int .i64 a0_1, .int .i64 a0_2, .int .i64 a0_3, .string a0_4, .string a0_5] 26 (0, 0)) (pl BK306.out) k_ hk_), (Kd.freshB (g := gb307) (o := .cells #[.int .i64 a1_0, .int .i64 a1_1, .int .i64 a1_2, .int .i64 a1_3, .string a1_4, .string a1_5] 26 (0, 0)) (pl BK307.out) k_ hk_), (Kd.freshB (g := gb308) (o := .cells #[.int .i64 0, .int .i64 0, .int .i64 0, .int .i64 0] 24 (0, 0)) (pl BK308.out) k_ hk_), (Kd.freshB (g := gb309) (o := .cells #[.int .i64 0, .int .i64 x310001_2, .int .i64 x310002_2, .int .i64 0] 24 (0, 0)) (pl BK309.out) k_ hk_)⟩)) (below_size (by repeat (first | (with_reducible first | exact HB.out | apply below_alloc | apply pw_below_drewN | apply below_drew1 | refine below_set ?_ GE306.out | refine below_set ?_ GE307.out | refine below_set ?_ GE308.out | refine below_set ?_ GE309.out) | exact HB.out))))
             have n1_ := Aside0.mk (blk_below (pl BK306.out) hb)
             have n2_ := Aside0.mk (blk_below (pl BK307.out) hb)
             have n3_ := Aside0.mk (blk_below (pl BK308.out) hb)
             have n4_ := Aside0.mk (blk_below (pl BK309.out) hb)
             have n5_ := Aside0.mk (below_step (by repeat (first | (with_reducible first | exact HB.out | apply below_alloc | apply pw_below_drewN | apply below_drew1 | refine below_set ?_ GE306.out | refine below_set ?_ GE307.out | refine below_set ?_ GE308.out | refine below_set ?_ GE309.out) | exact HB.out)) hb)
             clear BK306; clear BK307; clear BK308; clear BK309; clear HB; have HO312 := n0_; have BK306 := n1_; have BK307 := n2_; have BK308 := n3_; have BK309 := n4_; have HB := n5_; clear n0_ n1_ n2_ n3_ n4_ n5_; clear hb ho30
             refine hK.out _ _ ⟨(blk_cell BK306.out 0).trans rfl, (blk_cell BK306.out 1).trans rfl, (blk_cell BK306.out 2).trans rfl, (blk_cell BK306.out 3).trans rfl, (blk_cell BK306.out 4).trans rfl, (blk_cell BK306.out 5).trans rfl, (blk_cell BK307.out 0).trans rfl, (blk_cell BK307.out 1).trans rfl, (blk_cell BK307.out 2).trans rfl, (blk_cell BK307.out 3).trans rfl, (blk_cell BK307.out 4).trans rfl, (blk_cell BK307.out 5).trans rfl⟩ (fun hHeld => ?_)
             clear hK K
             refine norm_ (a' := ?_) ?_ ?_
             rotate_left
             ·show Act.put _ (some 36) _ = _
              simp only [Act.put, List.setIfInBounds_toArray, List.set_cons_zero, List.set_cons_succ, i64_w, i32_w]
              rfl
             refine pure_ (i := 14) (N := some 8) (v := ?_) (a' := ?_) #[true, true, true, true, true, true, true, true, true, true, true, true, true, true, true] rfl rfl (any_of HT_.out (by kernel_rfl)) (fun _ _ _ h => h) (Or.inl ⟨by rfl, ?_⟩) ?_ ?_
             rotate_left
             ·intro w'
              go_simp
              with_reducible rfl
             rotate_left
             ·simp only [Act.put, List.setIfInBounds_toArray, List.set_cons_zero, List.set_cons_succ, i64_w, i32_w]
              rfl
             refine done_ (done_of HT_.out (by kernel_rfl)) ?_
             obtain ⟨Ao31, co31, eo31⟩ := Kd.V_slice HO312.out
             subst eo31
             try go_wp2_with (first | ((with_reducible refine gate_callee (f := 42) rfl ?_); refine goesL_ (some 38) rfl rfl Tryd.func42 (by kernel_rfl) rfl #[.slice Ao31 y310.length co31, .int .i64 0] rfl (by (try simp only [List.map_toArray, List.map_cons, List.map_nil]); first | done | rfl | (simp only [List.length_drop, List.length_take]; rfl)) ?_; (with_reducible refine (galleyref02_Long.calls k2 _ _ y310 0 t313 _ ?side1 ?side2 A20.out).mono ?_); (case side1 => repeat (first | exact (Kd.V_reads' HO312.out).2.2 | (with_reducible refine Kd.C_alloc ?_ _) | (with_reducible refine Kd.C_drewN ?_ _) | (with_reducible refine Kd.C_drew ?_))); (case side2 => exact (Kd.V_reads' HO312.out).2.1); rintro e w' ⟨rfl, ⟨nd, rfl⟩⟩; refine ⟨_, rfl, ?_⟩; (try (rw [drewN_self w29]; generalize hq_ : World.drewN w29 _ = w29; have n0_ : Aside0 (Kd.V (Kd.int .u8) 5 w29 w.heap.size (fun k_ => k_ ≠ gb306 ∧ k_ ≠ gb307 ∧ k_ ≠ gb308 ∧ k_ ≠ gb309) (.slice Ao31 y310.length co31) y310) := ⟨by rw [← hq_]; exact (by (with_reducible repeat (first | apply Kd.V_alloc | apply Kd.V_drewN | apply Kd.V_drew)); exact HO312.out)⟩; have n1_ : Aside0 (w29.heap[gb306]? = some (.cells #[.int .i64 a0_0, .int .i64 a0_1, .int .i64 a0_2, .int .i64 a0_3, .string a0_4, .string a0_5] 26 (0, 0))) := ⟨by rw [← hq_]; exact (pl BK306.out)⟩; have n2_ : Aside0 (w29.heap[gb307]? = some (.cells #[.int .i64 a1_0, .int .i64 a1_1, .int .i64 a1_2, .int .i64 a1_3, .string a1_4, .string a1_5] 26 (0, 0))) := ⟨by rw [← hq_]; exact (pl BK307.out)⟩; have n3_ : Aside0 (w29.heap[gb308]? = some (.cells #[.int .i64 0, .int .i64 0, .int .i64 0, .int .i64 0] 24 (0, 0))) := ⟨by rw [← hq_]; exact (pl BK308.out)⟩; have n4_ : Aside0 (w29.heap[gb309]? = some (.cells #[.int .i64 0, .int .i64 x310001_2, .int .i64 x310002_2, .int .i64 0] 24 (0, 0))) := ⟨by rw [← hq_]; exact (pl BK309.out)⟩; have n5_ : Aside0 (Below w.heap.size w w29) := ⟨by rw [← hq_]; exact (by repeat (first | (with_reducible first | exact HB.out | apply below_alloc | apply pw_below_drewN | apply below_drew1 | refine below_set ?_ GE306.out | refine below_set ?_ GE307.out | refine below_set ?_ GE308.out | refine below_set ?_ GE309.out) | exact HB.out))⟩; clear HO312 BK306 BK307 BK308 BK309 HB hq_; have HO312 := n0_; have BK306 := n1_; have BK307 := n2_; have BK308 := n3_; have BK309 := n4_; have HB := n5_; clear n0_ n1_ n2_ n3_ n4_ n5_)); have hnb32 := NB309_306.out; have hnc32 := NB306_309.out; have hnb33 := NB309_308.out; have hnc33 := NB308_309.out; obtain ⟨hcz34_0, hcz34_1, hcz34_2, hcz34_3⟩ := c4 BK309.out; obtain ⟨hfz34_0, hfz34_1, hfz34_2, hfz34_3⟩ := f4 BK309.out) | ((with_reducible refine gate_callee (f := 37) rfl ?_); refine goesL_ (some 52) rfl rfl Tryd.func37 (by kernel_rfl) rfl #[.slice Ao31 y310.length co31, .int .i64 0] rfl (by (try simp only [List.map_toArray, List.map_cons, List.map_nil]); first | done | rfl | (simp only [List.length_drop, List.length_take]; rfl)) ?_; (with_reducible refine (galleyref02_Of.calls k2 _ _ y310 0 t314 t315 t316 _ ?side1 ?side2 A22.out).mono ?_); (case side1 => refine (Kd.V_reads' (e := 5) (base := w.heap.size) (ok := fun k_ => (k_ ≠ gb306 ∧ (k_ ≠ gb307 ∧ (k_ ≠ gb308 ∧ k_ ≠ gb309)))) (n := y310.length) (c := co31) ?_).2.2; exact (by (with_reducible repeat (first | apply Kd.V_alloc | apply Kd.V_drewN | apply Kd.V_drew)); exact (Kd.V_mono (Kd.V_far (p := ⟨gb309, 1, none⟩) (Kd.V_mono HO312.out (fun k_ hk => (⟨hk, hk.2.2.2⟩ : _ ∧ k_ ≠ gb309))) (fun _ hk => hk.2) (.int .i64 (wrap64 ((wrap64 (x6_1 + x7_2)) - 1)))) (fun _ h_ => h_.1)))); (case side2 => exact (Kd.V_reads' HO312.out).2.1); rintro e w35 ⟨rfl, hb⟩; refine ⟨_, rfl, ?_⟩; have n0_ := Aside0.mk (Kd.V_below (by (with_reducible repeat (first | apply Kd.V_alloc | apply Kd.V_drewN | apply Kd.V_drew)); exact (Kd.V_mono (Kd.V_far (p := ⟨gb309, 1, none⟩) (Kd.V_mono HO312.out (fun k_ hk => (⟨hk, hk.2.2.2⟩ : _ ∧ k_ ≠ gb309))) (fun _ hk => hk.2) (.int .i64 (wrap64 ((wrap64 (x6_1 + x7_2)) - 1)))) (fun _ h_ => h_.1))) hb); have n1_ := Aside0.mk (blk_below (g := gb306) (o := .cells #[.int .i64 a0_0, .int .i64 a0_1, .int .i64 a0_2, .int .i64 a0_3, .string a0_4, .string a0_5] 26 (0, 0)) (by refine pl ?_; refine blk_far ?_ NB306_309.out _; refine pl ?_; exact BK306.out) hb); have n2_ := Aside0.mk (blk_below (g := gb307) (o := .cells #[.int .i64 a1_0, .int .i64 a1_1, .int .i64 a1_2, .int .i64 a1_3, .string a1_4, .string a1_5] 26 (0, 0)) (by refine pl ?_; refine blk_far ?_ NB307_309.out _; refine pl ?_; exact BK307.out) hb); have n3_ := Aside0.mk (blk_below (g := gb308) (o := .cells #[.int .i64 0, .int .i64 0, .int .i64 0, .int .i64 0] 24 (0, 0)) (by refine pl ?_; refine blk_far ?_ NB308_309.out _; refine pl ?_; exact BK308.out) hb); have n4_ := Aside0.mk (blk_below (g := gb309) (o := .cells #[.int .i64 0, .int .i64 (wrap64 ((wrap64 (x6_1 + x7_2)) - 1)), .int .i64 x310002_2, .int .i64 0] 24 (0, 0)) (by refine pl ?_; refine blk_put (cs := #[.int .i64 0, .int .i64 x310001_2, .int .i64 x310002_2, .int .i64 0]) ?_ 1 _ rfl; refine pl ?_; exact BK309.out) hb); have n5_ := Aside0.mk (below_step (by repeat (first | (with_reducible first | exact HB.out | apply below_alloc | apply pw_below_drewN | apply below_drew1 | refine below_set ?_ GE306.out | refine below_set ?_ GE307.out | refine below_set ?_ GE308.out | refine below_set ?_ GE309.out) | exact HB.out)) hb); clear HO312; clear BK306; clear BK307; clear BK308; clear BK309; clear HB; have HO312 := n0_; have BK306 := n1_; have BK307 := n2_; have BK308 := n3_; have BK309 := n4_; have HB := n5_; clear n0_ n1_ n2_ n3_ n4_ n5_; (try clear hb); (try clear hb2); (try clear hk); (try clear hi)) | ((with_reducible refine gate_callee (f := 30) rfl ?_); refine goesL_ (some 53) rfl rfl Tryd.func30 (by kernel_rfl) rfl #[.agg #[.int .i32 t314, .int .i64 t315, .bool t316]] rfl (by (try simp only [List.map_toArray, List.map_cons, List.map_nil]); first | done | rfl | (simp only [List.length_drop, List.length_take]; rfl)) ?_; (with_reducible refine (galleyref05_units.calls t314 t315 t316 t317 _ A23.out).mono ?_); rintro e w36 ⟨rfl, hb⟩; refine ⟨_, rfl, ?_⟩; have n0_ := Aside0.mk (Kd.V_below (by (with_reducible repeat (first | apply Kd.V_alloc | apply Kd.V_drewN | apply Kd.V_drew)); exact HO312.out) hb); have n1_ := Aside0.mk (blk_below (pl BK306.out) hb); have n2_ := Aside0.mk (blk_below (pl BK307.out) hb); have n3_ := Aside0.mk (blk_below (pl BK308.out) hb); have n4_ := Aside0.mk (blk_below (pl BK309.out) hb); have n5_ := Aside0.mk (below_step (by repeat (first | (with_reducible first | exact HB.out | apply below_alloc | apply pw_below_drewN | apply below_drew1 | refine below_set ?_ GE306.out | refine below_set ?_ GE307.out | refine below_set ?_ GE308.out | refine below_set ?_ GE309.out) | exact HB.out)) hb); clear HO312; clear BK306; clear BK307; clear BK308; clear BK309; clear HB; have HO312 := n0_; have BK306 := n1_; have BK307 := n2_; have BK308 := n3_; have BK309 := n4_; have HB := n5_; clear n0_ n1_ n2_ n3_ n4_ n5_; (try clear hb); (try clear hb2); (try clear hk); (try clear hi); obtain ⟨hcz37_0, hcz37_1, hcz37_2, hcz37_3⟩ := c4 BK309.out; obtain ⟨hfz37_0, hfz37_1, hfz37_2, hfz37_3⟩ := f4 BK309.out))
             go_roundg k2
             case measure => have := HK1.out; have := HK2.out; omega
             case rel => exact ⟨(wrap64 (x7_2 + 1)), (wrap64 ((wrap64 (x6_1 + x7_2)) - 1)), (wrap64 ((wrap64 (x6_1 + x7_2)) - t317)), (by first | rfl | (simp; done) | (simp [*]; done)), H', ⟨by have := HK1.out; have := HK2.out; omega⟩, ⟨by refine pl ?_; refine blk_far ?_ NB306_309.out _; refine pl ?_; exact BK306.out⟩, ⟨by refine pl ?_; refine blk_far ?_ NB307_309.out _; refine pl ?_; exact BK307.out⟩, ⟨by refine pl ?_; refine blk_far ?_ NB308_309.out _; refine pl ?_; exact BK308.out⟩, ⟨by refine pl ?_; refine blk_put (cs := #[.int .i64 0, .int .i64 (wrap64 ((wrap64 (x6_1 + x7_2)) - 1)), .int .i64 x310002_2, .int .i64 0]) ?_ 2 _ rfl; refine pl ?_; exact BK309.out⟩, ⟨by repeat (first | (with_reducible first | exact HB.out | apply below_alloc | apply pw_below_drewN | apply below_drew1 | refine below_set ?_ GE306.out | refine below_set ?_ GE307.out | refine below_set ?_ GE308.out | refine below_set ?_ GE309.out) | exact HB.out)⟩⟩
            ·rw [if_neg c21] at H
             have c21b0 : (t313 == (wrap64 (x6_1 + x7_2))) = false := beq_eq_false_iff_ne.mpr c21
             have c21b1 : (t313 != (wrap64 (x6_1 + x7_2))) = true := bne_iff_ne.mpr c21
             have H' := Aside0.mk H; clear H; have hnb38 := NB307_306.out; have hnc38 := NB306_307.out; have hnb39 := NB307_308.out; have hnc39 := NB308_307.out; have hnb40 := NB307_309.out; have hnc40 := NB309_307.out; obtain ⟨hcz41_0, hcz41_1, hcz41_2, hcz41_3, hcz41_4, hcz41_5⟩ := c6 BK307.out; obtain ⟨hfz41_0, hfz41_1, hfz41_2, hfz41_3, hfz41_4, hfz41_5⟩ := f6 BK307.out
             try go_wp2
             have n0_ := Aside0.mk (blk_drew BK306.out)
             have n1_ := Aside0.mk (blk_drew BK307.out)
             have n2_ := Aside0.mk (blk_drew BK308.out)
             have n3_ := Aside0.mk (blk_drew BK309.out)
             have n4_ := Aside0.mk (below_drew1 HB.out)
             clear BK306; clear BK307; clear BK308; clear BK309; clear HB; have BK306 := n0_; have BK307 := n1_; have BK308 := n2_; have BK309 := n3_; have HB := n4_; clear n0_ n1_ n2_ n3_ n4_
             refine start_ (n := 15) (S := fun w' => w'.cell? ⟨gb306, 0, none⟩ = some (.int .i64 a0_0) ∧ w'.cell? ⟨gb306, 1, none⟩ = some (.int .i64 a0_1) ∧ w'.cell? ⟨gb306, 2, none⟩ = some (.int .i64 a0_2) ∧ w'.cell? ⟨gb306, 3, none⟩ = some (.int .i64 a0_3) ∧ w'.cell? ⟨gb306, 4, none⟩ = some (.string a0_4) ∧ w'.cell? ⟨gb306, 5, none⟩ = some (.string a0_5) ∧ w'.cell? ⟨gb307, 0, none⟩ = some (.int .i64 a1_0) ∧ w'.cell? ⟨gb307, 1, none⟩ = some (.int .i64 a1_1) ∧ w'.cell? ⟨gb307, 2, none⟩ = some (.int .i64 a1_2) ∧ w'.cell? ⟨gb307, 3, none⟩ = some (.int .i64 a1_3) ∧ w'.cell? ⟨gb307, 4, none⟩ = some (.string a1_4) ∧ w'.cell? ⟨gb307, 5, none⟩ = some (.string a1_5)) (ds := []) #[false, false, false, false, false, false, false, false, false, false, false, false, false, false, false] (by kernel_rfl) rfl rfl ⟨(blk_cell BK306.out 0).trans rfl, (blk_cell BK306.out 1).trans rfl, (blk_cell BK306.out 2).trans rfl, (blk_cell BK306.out 3).trans rfl, (blk_cell BK306.out 4).trans rfl, (blk_cell BK306.out 5).trans rfl, (blk_cell BK307.out 0).trans rfl, (blk_cell BK307.out 1).trans rfl, (blk_cell BK307.out 2).trans rfl, (blk_cell BK307.out 3).trans rfl, (blk_cell BK307.out 4).trans rfl, (blk_cell BK307.out 5).trans rfl⟩ (fun hHeld => ?_); refine with_tabW galleyref05_seam.tab8 galleyref05_seam.bits8 (fun HT_ HW_ => ?_)
             generalize wr.drew = w42 at BK306 BK307 BK308 BK309 HB hHeld ⊢
             refine pure_ (i := 0) (N := some 23) (v := ?_) (a' := ?_) #[true, false, false, false, false, false, false, false, false, false, false, false, false, false, false] rfl rfl (any_of HT_.out (by kernel_rfl)) (fun _ _ _ h => h) (Or.inl ⟨by rfl, ?_⟩) ?_ ?_
             rotate_left
             ·intro w'
              go_simp
              with_reducible rfl
             rotate_left
             ·simp only [Act.put, List.setIfInBounds_toArray, List.set_cons_zero, List.set_cons_succ, i64_w, i32_w]
              rfl
             refine pure_ (i := 2) (N := some 25) (v := ?_) (a' := ?_) #[true, false, true, false, false, false, false, false, false, false, false, false, false, false, false] rfl rfl (any_of HT_.out (by kernel_rfl)) (fun _ _ _ h => h) (Or.inl ⟨by rfl, ?_⟩) ?_ ?_
             rotate_left
             ·intro w'
              go_simp
              with_reducible rfl
             rotate_left
             ·simp only [Act.put, List.setIfInBounds_toArray, List.set_cons_zero, List.set_cons_succ, i64_w, i32_w]
              rfl
             refine pure_ (i := 5) (N := some 28) (v := ?_) (a' := ?_) #[true, false, true, false, false, true, false, false, false, false, false, false, false, false, false] rfl rfl (any_of HT_.out (by kernel_rfl)) (fun _ _ _ h => h) (Or.inl ⟨by rfl, ?_⟩) ?_ ?_
             rotate_left
             ·intro w'
              go_simp
              with_reducible rfl
             rotate_left
             ·simp only [Act.put, List.setIfInBounds_toArray, List.set_cons_zero, List.set_cons_succ, i64_w, i32_w]
              rfl
             refine pure_ (i := 8) (N := some 31) (v := ?_) (a' := ?_) #[true, false, true, false, false, true, false, false, true, false, false, false, false, false, false] rfl rfl (any_of HT_.out (by kernel_rfl)) (fun _ _ _ h => h) (Or.inl ⟨by rfl, ?_⟩) ?_ ?_
             rotate_left
             ·intro w'
              go_simp
              with_reducible rfl
             rotate_left
             ·simp only [Act.put, List.setIfInBounds_toArray, List.set_cons_zero, List.set_cons_succ, i64_w, i32_w]
              rfl
             refine pure_ (i := 10) (N := some 33) (v := ?_) (a' := ?_) #[true, false, true, false, false, true, false, false, true, false, true, false, false, false, false] rfl rfl (any_of HT_.out (by kernel_rfl)) (fun _ _ _ h => h) (Or.inl ⟨by rfl, ?_⟩) ?_ ?_
             rotate_left
             ·intro w'
              go_simp
              with_reducible rfl
             rotate_left
             ·simp only [Act.put, List.setIfInBounds_toArray, List.set_cons_zero, List.set_cons_succ, i64_w, i32_w]
              rfl
             refine take_ (i := 1) (N := some 24) (v := ?_) (a' := ?_) #[true, true, true, false, false, true, false, false, true, false, true, false, false, false, false] rfl rfl (take_ofW HT_.out HW_.out (by kernel_rfl)) (fun _ _ _ h => h) (Or.inl ⟨by rfl, ?_⟩) hHeld ?_ ?_
             rotate_left
             ·rintro w' ⟨s0, s1, s2, s3, s4, s5, s6, s7, s8, s9, s10, s11⟩
              go_simp
              with_reducible rfl
             rotate_left
             ·simp only [Act.put, List.setIfInBounds_toArray, List.set_cons_zero, List.set_cons_succ, i64_w, i32_w]
              rfl
             refine take_ (i := 3) (N := some 26) (v := ?_) (a' := ?_) #[true, true, true, true, false, true, false, false, true, false, true, false, false, false, false] rfl rfl (take_ofW HT_.out HW_.out (by kernel_rfl)) (fun _ _ _ h => h) (Or.inl ⟨by rfl, ?_⟩) hHeld ?_ ?_
             rotate_left
             ·rintro w' ⟨s0, s1, s2, s3, s4, s5, s6, s7, s8, s9, s10, s11⟩
              go_simp
              with_reducible rfl
             rotate_left
             ·simp only [Act.put, List.setIfInBounds_toArray, List.set_cons_zero, List.set_cons_succ, i64_w, i32_w]
              rfl
             refine pure_ (i := 4) (N := some 27) (v := ?_) (a' := ?_) #[true, true, true, true, true, true, false, false, true, false, true, false, false, false, false] rfl rfl (any_of HT_.out (by kernel_rfl)) (fun _ _ _ h => h) (Or.inl ⟨by rfl, ?_⟩) ?_ ?_
             rotate_left
             ·intro w'
              go_simp
              with_reducible rfl
             rotate_left
             ·simp only [Act.put, List.setIfInBounds_toArray, List.set_cons_zero, List.set_cons_succ, i64_w, i32_w]
              rfl
             refine pure_ (i := 6) (N := some 29) (v := ?_) (a' := ?_) #[true, true, true, true, true, true, true, false, true, false, true, false, false, false, false] rfl rfl (any_of HT_.out (by kernel_rfl)) (fun _ _ _ h => h) (Or.inl ⟨by rfl, ?_⟩) ?_ ?_
             rotate_left
             ·intro w'
              go_simp
              with_reducible rfl
             rotate_left
             ·simp only [Act.put, List.setIfInBounds_toArray, List.set_cons_zero, List.set_cons_succ, i64_w, i32_w]
              rfl
             refine pure_ (i := 7) (N := some 30) (v := ?_) (a' := ?_) #[true, true, true, true, true, true, true, true, true, false, true, false, false, false, false] rfl rfl (any_of HT_.out (by kernel_rfl)) (fun _ _ _ h => h) (Or.inl ⟨by rfl, ?_⟩) ?_ ?_
             rotate_left
             ·intro w'
              go_simp
              with_reducible rfl
             rotate_left
             ·simp only [Act.put, List.setIfInBounds_toArray, List.set_cons_zero, List.set_cons_succ, i64_w, i32_w]
              rfl
             refine take_ (i := 9) (N := some 32) (v := ?_) (a' := ?_) #[true, true, true, true, true, true, true, true, true, true, true, false, false, false, false] rfl rfl (take_ofW HT_.out HW_.out (by kernel_rfl)) (fun _ _ _ h => h) (Or.inl ⟨by rfl, ?_⟩) hHeld ?_ ?_
             rotate_left
             ·rintro w' ⟨s0, s1, s2, s3, s4, s5, s6, s7, s8, s9, s10, s11⟩
              go_simp
              with_reducible rfl
             rotate_left
             ·simp only [Act.put, List.setIfInBounds_toArray, List.set_cons_zero, List.set_cons_succ, i64_w, i32_w]
              rfl
             refine pure_ (i := 11) (N := some 34) (v := ?_) (a' := ?_) #[true, true, true, true, true, true, true, true, true, true, true, true, false, false, false] rfl rfl (any_of HT_.out (by kernel_rfl)) (fun _ _ _ h => h) (Or.inl ⟨by rfl, ?_⟩) ?_ ?_
             rotate_left
             ·intro w'
              go_simp
              with_reducible rfl
             rotate_left
             ·simp only [Act.put, List.setIfInBounds_toArray, List.set_cons_zero, List.set_cons_succ, i64_w, i32_w]
              rfl
             refine pure_ (i := 12) (N := some 35) (v := ?_) (a' := ?_) #[true, true, true, true, true, true, true, true, true, true, true, true, true, false, false] rfl rfl (any_of HT_.out (by kernel_rfl)) (fun _ _ _ h => h) (Or.inl ⟨by rfl, ?_⟩) ?_ ?_
             rotate_left
             ·intro w'
              go_simp
              with_reducible rfl
             rotate_left
             ·simp only [Act.put, List.setIfInBounds_toArray, List.set_cons_zero, List.set_cons_succ, i64_w, i32_w]
              rfl
             refine one_ (i := 13) (N := some 36) #[true, true, true, true, true, true, true, true, true, true, true, true, true, true, false] rfl rfl (one_of HT_.out (by kernel_rfl)) (by decide) (fun K hK => ?_)
             refine Kd.V_bytes_step _ 5 ?hg (N := 36) ?hd (s := ((a0_5.extract ((ji13) : Int).toNat a0_5.size) ++ (a1_4.extract 0 (x7_2 : Int).toNat))) (ok := fun k_ => w42.heap.size ≤ k_) rfl ?hx Tryd.underlying9 Tryd.underlying29 Tryd.underlying5 (Nat.le_refl _) (Below.refl _ _) (Nat.le_refl _) (of_decide_eq_true (by first | (with_reducible assumption) | assumption)) ?_; (case hd => rfl); (case hg => rfl); (case hx => first | rfl | (go_simp; done) | (go_simp; rfl))
             intro v311 w43 ho44 hb hg_ hnew_
             clear hg_ hnew_
             (first | rw [← Ny310.out] at ho44 | (simp only [Int.reduceToNat] at ho44; rw [← Ny310.out] at ho44))
             have n0_ := Aside0.mk (Kd.V_lower (Kd.V_mono (ok' := fun k_ => k_ ≠ gb306 ∧ k_ ≠ gb307 ∧ k_ ≠ gb308 ∧ k_ ≠ gb309) ho44 (fun k_ hk_ => ⟨(Kd.freshB (g := gb306) (o := .cells #[.int .i64 a0_0, .int .i64 a0_1, .int .i64 a0_2, .int .i64 a0_3, .string a0_4, .string a0_5] 26 (0, 0)) (pl BK306.out) k_ hk_), (Kd.freshB (g := gb307) (o := .cells #[.int .i64 a1_0, .int .i64 a1_1, .int .i64 a1_2, .int .i64 a1_3, .string a1_4, .string a1_5] 26 (0, 0)) (pl BK307.out) k_ hk_), (Kd.freshB (g := gb308) (o := .cells #[.int .i64 0, .int .i64 0, .int .i64 0, .int .i64 0] 24 (0, 0)) (pl BK308.out) k_ hk_), (Kd.freshB (g := gb309) (o := .cells #[.int .i64 0, .int .i64 x310001_2, .int .i64 x310002_2, .int .i64 0] 24 (0, 0)) (pl BK309.out) k_ hk_)⟩)) (below_size (by repeat (first | (with_reducible first | exact HB.out | apply below_alloc | apply pw_below_drewN | apply below_drew1 | refine below_set ?_ GE306.out | refine below_set ?_ GE307.out | refine below_set ?_ GE308.out | refine below_set ?_ GE309.out) | exact HB.out))))
             have n1_ := Aside0.mk (blk_below (pl BK306.out) hb)
             have n2_ := Aside0.mk (blk_below (pl BK307.out) hb)
             have n3_ := Aside0.mk (blk_below (pl BK308.out) hb)
             have n4_ := Aside0.mk (blk_below (pl BK309.out) hb)
             have n5_ := Aside0.mk (below_step (by repeat (first | (with_reducible first | exact HB.out | apply below_alloc | apply pw_below_drewN | apply below_drew1 | refine below_set ?_ GE306.out | refine below_set ?_ GE307.out | refine below_set ?_ GE308.out | refine below_set ?_ GE309.out) | exact HB.out)) hb)
             clear BK306; clear BK307; clear BK308; clear BK309; clear HB; have HO312 := n0_; have BK306 := n1_; have BK307 := n2_; have BK308 := n3_; have BK309 := n4_; have HB := n5_; clear n0_ n1_ n2_ n3_ n4_ n5_; clear hb ho44
             refine hK.out _ _ ⟨(blk_cell BK306.out 0).trans rfl, (blk_cell BK306.out 1).trans rfl, (blk_cell BK306.out 2).trans rfl, (blk_cell BK306.out 3).trans rfl, (blk_cell BK306.out 4).trans rfl, (blk_cell BK306.out 5).trans rfl, (blk_cell BK307.out 0).trans rfl, (blk_cell BK307.out 1).trans rfl, (blk_cell BK307.out 2).trans rfl, (blk_cell BK307.out 3).trans rfl, (blk_cell BK307.out 4).trans rfl, (blk_cell BK307.out 5).trans rfl⟩ (fun hHeld => ?_)
             clear hK K
             refine norm_ (a' := ?_) ?_ ?_
             rotate_left
             ·show Act.put _ (some 36) _ = _
              simp only [Act.put, List.setIfInBounds_toArray, List.set_cons_zero, List.set_cons_succ, i64_w, i32_w]
              rfl
             refine pure_ (i := 14) (N := some 8) (v := ?_) (a' := ?_) #[true, true, true, true, true, true, true, true, true, true, true, true, true, true, true] rfl rfl (any_of HT_.out (by kernel_rfl)) (fun _ _ _ h => h) (Or.inl ⟨by rfl, ?_⟩) ?_ ?_
             rotate_left
             ·intro w'
              go_simp
              with_reducible rfl
             rotate_left
             ·simp only [Act.put, List.setIfInBounds_toArray, List.set_cons_zero, List.set_cons_succ, i64_w, i32_w]
              rfl
             refine done_ (done_of HT_.out (by kernel_rfl)) ?_
             obtain ⟨Ao45, co45, eo45⟩ := Kd.V_slice HO312.out
             subst eo45
             try go_wp2_with (first | ((with_reducible refine gate_callee (f := 42) rfl ?_); refine goesL_ (some 38) rfl rfl Tryd.func42 (by kernel_rfl) rfl #[.slice Ao45 y310.length co45, .int .i64 0] rfl (by (try simp only [List.map_toArray, List.map_cons, List.map_nil]); first | done | rfl | (simp only [List.length_drop, List.length_take]; rfl)) ?_; (with_reducible refine (galleyref02_Long.calls k2 _ _ y310 0 t313 _ ?side1 ?side2 A20.out).mono ?_); (case side1 => repeat (first | exact (Kd.V_reads' HO312.out).2.2 | (with_reducible refine Kd.C_alloc ?_ _) | (with_reducible refine Kd.C_drewN ?_ _) | (with_reducible refine Kd.C_drew ?_))); (case side2 => exact (Kd.V_reads' HO312.out).2.1); rintro e w' ⟨rfl, ⟨nd, rfl⟩⟩; refine ⟨_, rfl, ?_⟩))
             go_roundg k2
             case measure => have := HK1.out; have := HK2.out; omega
             case rel => exact ⟨(wrap64 (x7_2 + 1)), (x310001_2), (x310002_2), (by first | rfl | (simp; done) | (simp [*]; done)), H', ⟨by have := HK1.out; have := HK2.out; omega⟩, ⟨pl BK306.out⟩, ⟨pl BK307.out⟩, ⟨pl BK308.out⟩, ⟨pl BK309.out⟩, ⟨by repeat (first | (with_reducible first | exact HB.out | apply below_alloc | apply pw_below_drewN | apply below_drew1 | refine below_set ?_ GE306.out | refine below_set ?_ GE307.out | refine below_set ?_ GE308.out | refine below_set ?_ GE309.out) | exact HB.out)⟩⟩
           ·rw [if_neg c19] at H
            exact absurd H (by simp)
          ·rw [if_neg c18] at H
           exact absurd H (by simp)
         ·rw [if_neg c16] at H
          exact absurd H (by simp)
        ·rw [if_neg c15] at H
         exact absurd H (by simp)
       ·rw [if_neg c14] at H
        exact absurd H (by simp)
      ·rw [if_neg c12] at H
       have c12b0 : decide (x7_2 ≤ (a1_4.size : Int)) = false := decide_eq_false c12
       clear c12; have H' := Aside0.mk H; clear H; have hnb46 := NB307_306.out; have hnc46 := NB306_307.out; have hnb47 := NB307_308.out; have hnc47 := NB308_307.out; have hnb48 := NB307_309.out; have hnc48 := NB309_307.out; obtain ⟨hcz49_0, hcz49_1, hcz49_2, hcz49_3, hcz49_4, hcz49_5⟩ := c6 BK307.out; obtain ⟨hfz49_0, hfz49_1, hfz49_2, hfz49_3, hfz49_4, hfz49_5⟩ := f6 BK307.out
       go_wp2
       go_roundg k2
       case measure => have := HK1.out; have := HK2.out; omega
       case rel => exact ⟨(wrap64 (x6_1 + 1)), (x310001_2), (x310002_2), (by first | rfl | (simp; done) | (simp [*]; done)), H', ⟨by have := HK1.out; have := HK2.out; omega⟩, ⟨pl BK306.out⟩, ⟨pl BK307.out⟩, ⟨pl BK308.out⟩, ⟨pl BK309.out⟩, ⟨by repeat (first | (with_reducible first | exact HB.out | apply below_alloc | apply pw_below_drewN | apply below_drew1 | refine below_set ?_ GE306.out | refine below_set ?_ GE307.out | refine below_set ?_ GE308.out | refine below_set ?_ GE309.out) | exact HB.out)⟩⟩
   ·rw [if_neg c7] at H
    have c7b0 : decide (x6_1 ≤ (a0_5.size : Int)) = false := decide_eq_false c7
    clear c7
    by_cases c50 : (a0_5.size : Int) > 0
    ·rw [if_pos c50] at H
     have c50b0 : decide (0 < (a0_5.size : Int)) = true := decide_eq_true c50
     have c50b1 : decide (0 < a0_5.size) = true := decide_eq_true (by omega)
     clear c50
     by_cases c51 : (a1_4.size : Int) > 0
     ·rw [if_pos c51] at H
      have c51b0 : decide (0 < (a1_4.size : Int)) = true := decide_eq_true c51
      have c51b1 : decide (0 < a1_4.size) = true := decide_eq_true (by omega)
      clear c51
      obtain ⟨ji52, hji52⟩ : ∃ j_ : Int, (wrap64 ((a0_5.size : Int) - 1)) = j_ := ⟨_, rfl⟩
      replace H : (if 0 ≤ (ji52) then (if (ji52) < (a0_5.size : Int) then (if (bt a0_5 (ji52)) = 13 then (if 0 < (a1_4.size : Int) then (if (bt a1_4 0) = 10 then (some (0, x310001_1, x310002_1, 1)) else (some (0, x310001_1, x310002_1, 0))) else (none)) else (some (0, x310001_1, x310002_1, 0))) else (none)) else (none)) = some (r1, r2, r3, r4) := by first | (rw [hji52] at H; exact H) | (simp only [hji52] at H ⊢; exact H)
      have hji52w : (IntKind.i64.wrap ((a0_5.size : Int) - 1)) = ji52 := (i64_w _).trans hji52
      by_cases c53 : 0 ≤ (ji52)
      ·rw [if_pos c53] at H
       have c53b0 : decide (0 ≤ (ji52)) = true := decide_eq_true c53
       clear c53
       by_cases c54 : (ji52) < (a0_5.size : Int)
       ·rw [if_pos c54] at H
        have c54b0 : decide ((ji52) < (a0_5.size : Int)) = true := decide_eq_true c54
        clear c54
        by_cases c56 : (bt a0_5 (ji52)) = 13
        ·rw [if_pos c56] at H
         have c56b0 : ((bt a0_5 (ji52)) == 13) = true := beq_iff_eq.mpr c56
         have c56b1 : ((bt a0_5 (ji52)) != 13) = false := bne_eq_false_iff_eq.mpr c56
         clear c56
         by_cases c57 : 0 < (a1_4.size : Int)
         ·rw [if_pos c57] at H
          have c57b0 : decide (0 < (a1_4.size : Int)) = true := decide_eq_true c57
          have c57b1 : decide (0 < a1_4.size) = true := decide_eq_true (by omega)
          clear c57
          by_cases c59 : (bt a1_4 0) = 10
          ·rw [if_pos c59] at H
           have c59b0 : ((bt a1_4 0) == 10) = true := beq_iff_eq.mpr c59
           have c59b1 : ((bt a1_4 0) != 10) = false := bne_eq_false_iff_eq.mpr c59
           clear c59
           simp only [Option.some.injEq, Prod.mk.injEq] at H
           obtain ⟨rfl, rfl, rfl, rfl⟩ := H
           have hnb60 := NB306_307.out; have hnc60 := NB307_306.out; have hnb61 := NB306_308.out; have hnc61 := NB308_306.out; have hnb62 := NB306_309.out; have hnc62 := NB309_306.out; obtain ⟨hcz63_0, hcz63_1, hcz63_2, hcz63_3, hcz63_4, hcz63_5⟩ := c6 BK306.out; obtain ⟨hfz63_0, hfz63_1, hfz63_2, hfz63_3, hfz63_4, hfz63_5⟩ := f6 BK306.out; have hnb64 := NB307_308.out; have hnc64 := NB308_307.out; have hnb65 := NB307_309.out; have hnc65 := NB309_307.out; obtain ⟨hcz66_0, hcz66_1, hcz66_2, hcz66_3, hcz66_4, hcz66_5⟩ := c6 BK307.out; obtain ⟨hfz66_0, hfz66_1, hfz66_2, hfz66_3, hfz66_4, hfz66_5⟩ := f6 BK307.out
           have p55 : 0 ≤ ((ji52) : Int) := of_decide_eq_true (by first | (with_reducible assumption) | assumption)
           have q55 : (ji52) < (a0_5.size : Int) := of_decide_eq_true (by first | (with_reducible assumption) | assumption)
           have hx55 := bt_at a0_5 (ji52)
           replace p55 := eq_true p55
           replace q55 := eq_true q55
           have p58 : 0 ≤ (0 : Int) := (by omega)
           have q58 : 0 < a1_4.size := (by have : (0 : Int) < (a1_4.size : Int) := of_decide_eq_true (by first | (with_reducible assumption) | assumption); omega)
           have hx58 : ∀ h : 0 < a1_4.size, ((a1_4[0]'h).toNat : Int) = bt a1_4 0 := bt_at a1_4 0
           clear p58
           have qi58 : (0 < (a1_4.size : Int)) = True := eq_true (of_decide_eq_true (by first | (with_reducible assumption) | assumption))
           replace q58 := eq_true q58
           have hnb67 := NB309_308.out; have hnc67 := NB308_309.out; obtain ⟨hcz68_0, hcz68_1, hcz68_2, hcz68_3⟩ := c4 BK309.out; obtain ⟨hfz68_0, hfz68_1, hfz68_2, hfz68_3⟩ := f4 BK309.out; obtain ⟨hcz69_0, hcz69_1, hcz69_2, hcz69_3⟩ := c4 BK308.out; obtain ⟨hfz69_0, hfz69_1, hfz69_2, hfz69_3⟩ := f4 BK308.out
           go_wp2
           refine bodyPost_ret (results_cell_row rfl _ _ gb308 24 #[.int .i64 0, .int .i64 x310001_1, .int .i64 x310002_1, .int .i64 1] (0, 0) _ rfl (by refine pl ?_; refine blk_put (cs := #[.int .i64 0, .int .i64 x310001_1, .int .i64 x310002_1, .int .i64 0]) ?_ 3 _ rfl; refine pl ?_; refine blk_put (cs := #[.int .i64 0, .int .i64 x310001_1, .int .i64 0, .int .i64 0]) ?_ 2 _ rfl; refine pl ?_; refine blk_put (cs := #[.int .i64 0, .int .i64 0, .int .i64 0, .int .i64 0]) ?_ 1 _ rfl; refine pl ?_; refine blk_put (cs := #[.int .i64 0, .int .i64 0, .int .i64 0, .int .i64 0]) ?_ 0 _ rfl; refine pl ?_; refine blk_far ?_ NB308_309.out _; refine pl ?_; exact BK308.out) Tryd.underlying24 rfl (by kernel_rfl)) rfl ?_
           exact ⟨by first | rfl | (simp [errW_none, errW_some] <;> rfl) | (simp only [← hji52]; first | rfl | (simp [errW_none, errW_some] <;> rfl)) | (simp [*, errW_none, errW_some] <;> rfl), by repeat (first | (with_reducible first | exact HB.out | apply below_alloc | apply pw_below_drewN | apply below_drew1 | refine below_set ?_ GE306.out | refine below_set ?_ GE307.out | refine below_set ?_ GE308.out | refine below_set ?_ GE309.out) | exact HB.out)⟩
          ·rw [if_neg c59] at H
           have c59b0 : ((bt a1_4 0) == 10) = false := beq_eq_false_iff_ne.mpr c59
           have c59b1 : ((bt a1_4 0) != 10) = true := bne_iff_ne.mpr c59
           simp only [Option.some.injEq, Prod.mk.injEq] at H
           obtain ⟨rfl, rfl, rfl, rfl⟩ := H
           have hnb70 := NB306_307.out; have hnc70 := NB307_306.out; have hnb71 := NB306_308.out; have hnc71 := NB308_306.out; have hnb72 := NB306_309.out; have hnc72 := NB309_306.out; obtain ⟨hcz73_0, hcz73_1, hcz73_2, hcz73_3, hcz73_4, hcz73_5⟩ := c6 BK306.out; obtain ⟨hfz73_0, hfz73_1, hfz73_2, hfz73_3, hfz73_4, hfz73_5⟩ := f6 BK306.out; have hnb74 := NB307_308.out; have hnc74 := NB308_307.out; have hnb75 := NB307_309.out; have hnc75 := NB309_307.out; obtain ⟨hcz76_0, hcz76_1, hcz76_2, hcz76_3, hcz76_4, hcz76_5⟩ := c6 BK307.out; obtain ⟨hfz76_0, hfz76_1, hfz76_2, hfz76_3, hfz76_4, hfz76_5⟩ := f6 BK307.out
           have p55 : 0 ≤ ((ji52) : Int) := of_decide_eq_true (by first | (with_reducible assumption) | assumption)
           have q55 : (ji52) < (a0_5.size : Int) := of_decide_eq_true (by first | (with_reducible assumption) | assumption)
           have hx55 := bt_at a0_5 (ji52)
           replace p55 := eq_true p55
           replace q55 := eq_true q55
           have p58 : 0 ≤ (0 : Int) := (by omega)
           have q58 : 0 < a1_4.size := (by have : (0 : Int) < (a1_4.size : Int) := of_decide_eq_true (by first | (with_reducible assumption) | assumption); omega)
           have hx58 : ∀ h : 0 < a1_4.size, ((a1_4[0]'h).toNat : Int) = bt a1_4 0 := bt_at a1_4 0
           clear p58
           have qi58 : (0 < (a1_4.size : Int)) = True := eq_true (of_decide_eq_true (by first | (with_reducible assumption) | assumption))
           replace q58 := eq_true q58
           have hnb77 := NB309_308.out; have hnc77 := NB308_309.out; obtain ⟨hcz78_0, hcz78_1, hcz78_2, hcz78_3⟩ := c4 BK309.out; obtain ⟨hfz78_0, hfz78_1, hfz78_2, hfz78_3⟩ := f4 BK309.out; obtain ⟨hcz79_0, hcz79_1, hcz79_2, hcz79_3⟩ := c4 BK308.out; obtain ⟨hfz79_0, hfz79_1, hfz79_2, hfz79_3⟩ := f4 BK308.out
           go_wp2
           refine bodyPost_ret (results_cell_row rfl _ _ gb308 24 #[.int .i64 0, .int .i64 x310001_1, .int .i64 x310002_1, .int .i64 0] (0, 0) _ rfl (by refine pl ?_; refine blk_put (cs := #[.int .i64 0, .int .i64 x310001_1, .int .i64 x310002_1, .int .i64 0]) ?_ 3 _ rfl; refine pl ?_; refine blk_put (cs := #[.int .i64 0, .int .i64 x310001_1, .int .i64 0, .int .i64 0]) ?_ 2 _ rfl; refine pl ?_; refine blk_put (cs := #[.int .i64 0, .int .i64 0, .int .i64 0, .int .i64 0]) ?_ 1 _ rfl; refine pl ?_; refine blk_put (cs := #[.int .i64 0, .int .i64 0, .int .i64 0, .int .i64 0]) ?_ 0 _ rfl; refine pl ?_; exact BK308.out) Tryd.underlying24 rfl (by kernel_rfl)) rfl ?_
           exact ⟨by first | rfl | (simp [errW_none, errW_some] <;> rfl) | (simp only [← hji52]; first | rfl | (simp [errW_none, errW_some] <;> rfl)) | (simp [*, errW_none, errW_some] <;> rfl), by repeat (first | (with_reducible first | exact HB.out | apply below_alloc | apply pw_below_drewN | apply below_drew1 | refine below_set ?_ GE306.out | refine below_set ?_ GE307.out | refine below_set ?_ GE308.out | refine below_set ?_ GE309.out) | exact HB.out)⟩
         ·rw [if_neg c57] at H
          exact absurd H (by simp)
        ·rw [if_neg c56] at H
         have c56b0 : ((bt a0_5 (ji52)) == 13) = false := beq_eq_false_iff_ne.mpr c56
         have c56b1 : ((bt a0_5 (ji52)) != 13) = true := bne_iff_ne.mpr c56
         simp only [Option.some.injEq, Prod.mk.injEq] at H
         obtain ⟨rfl, rfl, rfl, rfl⟩ := H
         have hnb80 := NB306_307.out; have hnc80 := NB307_306.out; have hnb81 := NB306_308.out; have hnc81 := NB308_306.out; have hnb82 := NB306_309.out; have hnc82 := NB309_306.out; obtain ⟨hcz83_0, hcz83_1, hcz83_2, hcz83_3, hcz83_4, hcz83_5⟩ := c6 BK306.out; obtain ⟨hfz83_0, hfz83_1, hfz83_2, hfz83_3, hfz83_4, hfz83_5⟩ := f6 BK306.out; have hnb84 := NB307_308.out; have hnc84 := NB308_307.out; have hnb85 := NB307_309.out; have hnc85 := NB309_307.out; obtain ⟨hcz86_0, hcz86_1, hcz86_2, hcz86_3, hcz86_4, hcz86_5⟩ := c6 BK307.out; obtain ⟨hfz86_0, hfz86_1, hfz86_2, hfz86_3, hfz86_4, hfz86_5⟩ := f6 BK307.out
         have p55 : 0 ≤ ((ji52) : Int) := of_decide_eq_true (by first | (with_reducible assumption) | assumption)
         have q55 : (ji52) < (a0_5.size : Int) := of_decide_eq_true (by first | (with_reducible assumption) | assumption)
         have hx55 := bt_at a0_5 (ji52)
         replace p55 := eq_true p55
         replace q55 := eq_true q55
         have hnb87 := NB309_308.out; have hnc87 := NB308_309.out; obtain ⟨hcz88_0, hcz88_1, hcz88_2, hcz88_3⟩ := c4 BK309.out; obtain ⟨hfz88_0, hfz88_1, hfz88_2, hfz88_3⟩ := f4 BK309.out; obtain ⟨hcz89_0, hcz89_1, hcz89_2, hcz89_3⟩ := c4 BK308.out; obtain ⟨hfz89_0, hfz89_1, hfz89_2, hfz89_3⟩ := f4 BK308.out
         go_wp2
         refine bodyPost_ret (results_cell_row rfl _ _ gb308 24 #[.int .i64 0, .int .i64 x310001_1, .int .i64 x310002_1, .int .i64 0] (0, 0) _ rfl (by refine pl ?_; refine blk_put (cs := #[.int .i64 0, .int .i64 x310001_1, .int .i64 x310002_1, .int .i64 0]) ?_ 3 _ rfl; refine pl ?_; refine blk_put (cs := #[.int .i64 0, .int .i64 x310001_1, .int .i64 0, .int .i64 0]) ?_ 2 _ rfl; refine pl ?_; refine blk_put (cs := #[.int .i64 0, .int .i64 0, .int .i64 0, .int .i64 0]) ?_ 1 _ rfl; refine pl ?_; refine blk_put (cs := #[.int .i64 0, .int .i64 0, .int .i64 0, .int .i64 0]) ?_ 0 _ rfl; refine pl ?_; exact BK308.out) Tryd.underlying24 rfl (by kernel_rfl)) rfl ?_
         exact ⟨by first | rfl | (simp [errW_none, errW_some] <;> rfl) | (simp only [← hji52]; first | rfl | (simp [errW_none, errW_some] <;> rfl)) | (simp [*, errW_none, errW_some] <;> rfl), by repeat (first | (with_reducible first | exact HB.out | apply below_alloc | apply pw_below_drewN | apply below_drew1 | refine below_set ?_ GE306.out | refine below_set ?_ GE307.out | refine below_set ?_ GE308.out | refine below_set ?_ GE309.out) | exact HB.out)⟩
       ·rw [if_neg c54] at H
        exact absurd H (by simp)
      ·rw [if_neg c53] at H
       exact absurd H (by simp)
     ·rw [if_neg c51] at H
      have c51b0 : decide (0 < (a1_4.size : Int)) = false := decide_eq_false c51
      have c51b1 : decide (0 < a1_4.size) = false := decide_eq_false (by omega)
      clear c51
      simp only [Option.some.injEq, Prod.mk.injEq] at H
      obtain ⟨rfl, rfl, rfl, rfl⟩ := H
      have hnb90 := NB306_307.out; have hnc90 := NB307_306.out; have hnb91 := NB306_308.out; have hnc91 := NB308_306.out; have hnb92 := NB306_309.out; have hnc92 := NB309_306.out; obtain ⟨hcz93_0, hcz93_1, hcz93_2, hcz93_3, hcz93_4, hcz93_5⟩ := c6 BK306.out; obtain ⟨hfz93_0, hfz93_1, hfz93_2, hfz93_3, hfz93_4, hfz93_5⟩ := f6 BK306.out; have hnb94 := NB307_308.out; have hnc94 := NB308_307.out; have hnb95 := NB307_309.out; have hnc95 := NB309_307.out; obtain ⟨hcz96_0, hcz96_1, hcz96_2, hcz96_3, hcz96_4, hcz96_5⟩ := c6 BK307.out; obtain ⟨hfz96_0, hfz96_1, hfz96_2, hfz96_3, hfz96_4, hfz96_5⟩ := f6 BK307.out; have hnb97 := NB309_308.out; have hnc97 := NB308_309.out; obtain ⟨hcz98_0, hcz98_1, hcz98_2, hcz98_3⟩ := c4 BK309.out; obtain ⟨hfz98_0, hfz98_1, hfz98_2, hfz98_3⟩ := f4 BK309.out; obtain ⟨hcz99_0, hcz99_1, hcz99_2, hcz99_3⟩ := c4 BK308.out; obtain ⟨hfz99_0, hfz99_1, hfz99_2, hfz99_3⟩ := f4 BK308.out
      go_wp2
      refine bodyPost_ret (results_cell_row rfl _ _ gb308 24 #[.int .i64 0, .int .i64 x310001_1, .int .i64 x310002_1, .int .i64 0] (0, 0) _ rfl (by refine pl ?_; refine blk_put (cs := #[.int .i64 0, .int .i64 x310001_1, .int .i64 x310002_1, .int .i64 0]) ?_ 3 _ rfl; refine pl ?_; refine blk_put (cs := #[.int .i64 0, .int .i64 x310001_1, .int .i64 0, .int .i64 0]) ?_ 2 _ rfl; refine pl ?_; refine blk_put (cs := #[.int .i64 0, .int .i64 0, .int .i64 0, .int .i64 0]) ?_ 1 _ rfl; refine pl ?_; refine blk_put (cs := #[.int .i64 0, .int .i64 0, .int .i64 0, .int .i64 0]) ?_ 0 _ rfl; refine pl ?_; exact BK308.out) Tryd.underlying24 rfl (by kernel_rfl)) rfl ?_
      exact ⟨by first | rfl | (simp [errW_none, errW_some] <;> rfl) | (simp [*, errW_none, errW_some] <;> rfl), by repeat (first | (with_reducible first | exact HB.out | apply below_alloc | apply pw_below_drewN | apply below_drew1 | refine below_set ?_ GE306.out | refine below_set ?_ GE307.out | refine below_set ?_ GE308.out | refine below_set ?_ GE309.out) | exact HB.out)⟩
    ·rw [if_neg c50] at H
     have c50b0 : decide (0 < (a0_5.size : Int)) = false := decide_eq_false c50
     have c50b1 : decide (0 < a0_5.size) = false := decide_eq_false (by omega)
     clear c50
     simp only [Option.some.injEq, Prod.mk.injEq] at H
     obtain ⟨rfl, rfl, rfl, rfl⟩ := H
     have hnb100 := NB306_307.out; have hnc100 := NB307_306.out; have hnb101 := NB306_308.out; have hnc101 := NB308_306.out; have hnb102 := NB306_309.out; have hnc102 := NB309_306.out; obtain ⟨hcz103_0, hcz103_1, hcz103_2, hcz103_3, hcz103_4, hcz103_5⟩ := c6 BK306.out; obtain ⟨hfz103_0, hfz103_1, hfz103_2, hfz103_3, hfz103_4, hfz103_5⟩ := f6 BK306.out; have hnb104 := NB309_307.out; have hnc104 := NB307_309.out; have hnb105 := NB309_308.out; have hnc105 := NB308_309.out; obtain ⟨hcz106_0, hcz106_1, hcz106_2, hcz106_3⟩ := c4 BK309.out; obtain ⟨hfz106_0, hfz106_1, hfz106_2, hfz106_3⟩ := f4 BK309.out; have hnb107 := NB308_307.out; have hnc107 := NB307_308.out; obtain ⟨hcz108_0, hcz108_1, hcz108_2, hcz108_3⟩ := c4 BK308.out; obtain ⟨hfz108_0, hfz108_1, hfz108_2, hfz108_3⟩ := f4 BK308.out
     go_wp2
     refine bodyPost_ret (results_cell_row rfl _ _ gb308 24 #[.int .i64 0, .int .i64 x310001_1, .int .i64 x310002_1, .int .i64 0] (0, 0) _ rfl (by refine pl ?_; refine blk_put (cs := #[.int .i64 0, .int .i64 x310001_1, .int .i64 x310002_1, .int .i64 0]) ?_ 3 _ rfl; refine pl ?_; refine blk_put (cs := #[.int .i64 0, .int .i64 x310001_1, .int .i64 0, .int .i64 0]) ?_ 2 _ rfl; refine pl ?_; refine blk_put (cs := #[.int .i64 0, .int .i64 0, .int .i64 0, .int .i64 0]) ?_ 1 _ rfl; refine pl ?_; refine blk_put (cs := #[.int .i64 0, .int .i64 0, .int .i64 0, .int .i64 0]) ?_ 0 _ rfl; refine pl ?_; exact BK308.out) Tryd.underlying24 rfl (by kernel_rfl)) rfl ?_
     exact ⟨by first | rfl | (simp [errW_none, errW_some] <;> rfl) | (simp [*, errW_none, errW_some] <;> rfl), by repeat (first | (with_reducible first | exact HB.out | apply below_alloc | apply pw_below_drewN | apply below_drew1 | refine below_set ?_ GE306.out | refine below_set ?_ GE307.out | refine below_set ?_ GE308.out | refine below_set ?_ GE309.out) | exact HB.out)⟩
end Go.Proofs.YtaojbcplmdjfnaaDoor.Pr

namespace Go.Proofs.YtaojbcplmdjfnaaDoor.Pr
open Go.RowKit Go.Proofs.YtaojbcplmdjfnaaDoorW.PrintWords Go.Proofs.YtaojbcplmdjfnaaDoorW.PrintLast Go.Proofs.YtaojbcplmdjfnaaDoorW.PrintMore
attribute [local go_sem] max2_int min2_int max_two min_two max_three min_three max_four min_four   -- for this text's walks alone
set_option linter.unusedVariables false
set_option linter.unusedSimpArgs false
mutual
def galleyref05_Join.j0 : Nat → Bool → Int → Int → Int → Int → ByteArray → ByteArray → Int → Int → Int → Int → ByteArray → ByteArray → Option (Int × Int × Int × Int × ByteArray × ByteArray × Int)
 | 0, _, _, _, _, _, _, _, _, _, _, _, _, _ => none
 | k + 1, x15, x319000, x319001, x319002, x319003, x319004, x319005, x320000, x320001, x320002, x320003, x320004, x320005 => if x15 = true then (some (0, 0, 0, 0, (⟨#[]⟩ : ByteArray), (⟨#[]⟩ : ByteArray), 50)) else (if (wrap64 (x319000 + x320000)) > 268435456 then (some (0, 0, 0, 0, (⟨#[]⟩ : ByteArray), (⟨#[]⟩ : ByteArray), 5)) else ((galleyref05_seam.f k x319000 x319001 x319002 x319003 x319004 x319005 x320000 x320001 x320002 x320003 x320004 x320005).bind fun bt323 => (if (x319004.size : Int) < 3 then (if x319004.size + x320004.size ≤ 9223372036854775807 then ((galleyref05_head.f (x319004 ++ x320004)).bind fun t329 => (galleyref05_Join.j1 k x319000 x319001 x319002 x319003 x319004 x319005 x320000 x320001 x320002 x320003 x320004 x320005 bt323.1 bt323.2.1 bt323.2.2.1 bt323.2.2.2 0 0 0 0 t329 x320005)) else (none)) else (galleyref05_Join.j1 k x319000 x319001 x319002 x319003 x319004 x319005 x320000 x320001 x320002 x320003 x320004 x320005 bt323.1 bt323.2.1 bt323.2.2.1 bt323.2.2.2 0 0 0 0 x319004 x320005))))
def galleyref05_Join.j1 : Nat → Int → Int → Int → Int → ByteArray → ByteArray → Int → Int → Int → Int → ByteArray → ByteArray → Int → Int → Int → Int → Int → Int → Int → Int → ByteArray → ByteArray → Option (Int × Int × Int × Int × ByteArray × ByteArray × Int)
 | 0, _, _, _, _, _, _, _, _, _, _, _, _, _, _, _, _, _, _, _, _, _, _ => none
 | k + 1, x319000, x319001, x319002, x319003, x319004, x319005, x320000, x320001, x320002, x320003, x320004, x320005, x328000, x328001, x328002, x328003, x329000, x329001, x329002, x329003, x329004, x329005 => if (x320005.size : Int) < 3 then (if x319005.size + x320005.size ≤ 9223372036854775807 then ((galleyref05_tail.f (x319005 ++ x320005)).bind fun t330 => ((galleyref05_Valid.f k (wrap64 (x319000 + x320000)) (wrap64 ((wrap64 (x319001 + x320001)) - x328001)) (wrap64 ((wrap64 (x319002 + x320002)) - x328002)) (wrap64 ((wrap64 (x319003 + x320003)) - x328003)) x329004 t330).bind fun t331 => (if t331 = true then (some (wrap64 (x319000 + x320000), wrap64 ((wrap64 (x319001 + x320001)) - x328001), wrap64 ((wrap64 (x319002 + x320002)) - x328002), wrap64 ((wrap64 (x319003 + x320003)) - x328003), x329004, t330, 0)) else (some (0, 0, 0, 0, (⟨#[]⟩ : ByteArray), (⟨#[]⟩ : ByteArray), 50))))) else (none)) else ((galleyref05_Valid.f k (wrap64 (x319000 + x320000)) (wrap64 ((wrap64 (x319001 + x320001)) - x328001)) (wrap64 ((wrap64 (x319002 + x320002)) - x328002)) (wrap64 ((wrap64 (x319003 + x320003)) - x328003)) x329004 x329005).bind fun t332 => (if t332 = true then (some (wrap64 (x319000 + x320000), wrap64 ((wrap64 (x319001 + x320001)) - x328001), wrap64 ((wrap64 (x319002 + x320002)) - x328002), wrap64 ((wrap64 (x319003 + x320003)) - x328003), x329004, x329005, 0)) else (some (0, 0, 0, 0, (⟨#[]⟩ : ByteArray), (⟨#[]⟩ : ByteArray), 50))))
end
def galleyref05_Join.f (k : Nat) (a0_0 : Int) (a0_1 : Int) (a0_2 : Int) (a0_3 : Int) (a0_4 : ByteArray) (a0_5 : ByteArray) (a1_0 : Int) (a1_1 : Int) (a1_2 : Int) (a1_3 : Int) (a1_4 : ByteArray) (a1_5 : ByteArray) : Option (Int × Int × Int × Int × ByteArray × ByteArray × Int) := (galleyref05_Valid.f k a0_0 a0_1 a0_2 a0_3 a0_4 a0_5).bind fun t321 => (if t321 = true then ((galleyref05_Valid.f k a1_0 a1_1 a1_2 a1_3 a1_4 a1_5).bind fun t322 => (galleyref05_Join.j0 k (!t322) a0_0 a0_1 a0_2 a0_3 a0_4 a0_5 a1_0 a1_1 a1_2 a1_3 a1_4 a1_5)) else (galleyref05_Join.j0 k true a0_0 a0_1 a0_2 a0_3 a0_4 a0_5 a1_0 a1_1 a1_2 a1_3 a1_4 a1_5))
set_option maxHeartbeats 8000000 in
set_option maxRecDepth 100000 in
theorem galleyref05_Join.calls (k : Nat) (a0_0 : Int) (a0_1 : Int) (a0_2 : Int) (a0_3 : Int) (a0_4 : ByteArray) (a0_5 : ByteArray) (a1_0 : Int) (a1_1 : Int) (a1_2 : Int) (a1_3 : Int) (a1_4 : ByteArray) (a1_5 : ByteArray) (r1 : Int) (r2 : Int) (r3 : Int) (r4 : Int) (r5 : ByteArray) (r6 : ByteArray) (r7 : Int) (w : World) (h : galleyref05_Join.f k a0_0 a0_1 a0_2 a0_3 a0_4 a0_5 a1_0 a1_1 a1_2 a1_3 a1_4 a1_5 = some (r1, r2, r3, r4, r5, r6, r7)) :
  Calls Tryd.prog 18 #[.agg #[.int .i64 a0_0, .int .i64 a0_1, .int .i64 a0_2, .int .i64 a0_3, .string a0_4, .string a0_5], .agg #[.int .i64 a1_0, .int .i64 a1_1, .int .i64 a1_2, .int .i64 a1_3, .string a1_4, .string a1_5]] w fun e w' => e = .returned (.tuple #[.agg #[.int .i64 r1, .int .i64 r2, .int .i64 r3, .int .i64 r4, .string r5, .string r6], .int .i64 r7]) ∧ Below w.heap.size w w' := by
 have hu26 := Tryd.underlying26
 have hu24 := Tryd.underlying24
 have HB := Aside0.mk (Below.refl w.heap.size w)
 have H : ((galleyref05_Valid.f k a0_0 a0_1 a0_2 a0_3 a0_4 a0_5).bind fun t321 => (if t321 = true then ((galleyref05_Valid.f k a1_0 a1_1 a1_2 a1_3 a1_4 a1_5).bind fun t322 => (galleyref05_Join.j0 k (!t322) a0_0 a0_1 a0_2 a0_3 a0_4 a0_5 a1_0 a1_1 a1_2 a1_3 a1_4 a1_5)) else (galleyref05_Join.j0 k true a0_0 a0_1 a0_2 a0_3 a0_4 a0_5 a1_0 a1_1 a1_2 a1_3 a1_4 a1_5))) = some (r1, r2, r3, r4, r5, r6, r7) := h
 clear h; have HC3 := Aside0.mk H; clear H
 go_enter Tryd.func18, Tryd.ntmps18
 go_upto_region 1 with (first | ((with_reducible refine gate_dst (N := 2) rfl ?_); refine box_event ?hg (N := 2) ?hd (cs := #[.int .i64 a0_0, .int .i64 a0_1, .int .i64 a0_2, .int .i64 a0_3, .string a0_4, .string a0_5]) (t := 26) ?hr ?_; (case hd => rfl); (case hg => rfl); (case hr => first | (go_simp; done) | (go_simp; rfl)); intro gb318 hg w4 hbox hb; have n0_ := Aside0.mk (below_step (bl HB.out) hb); have n1_ := Aside0.mk (hbox); have n2_ := Aside0.mk ((by rw [hg]; exact (below_size (bl HB.out)) : w.heap.size ≤ gb318)); have n3_ := Aside0.mk ((by rw [hg]; exact (below_size (bl HB.out)) : w.heap.size ≤ gb318)); clear HB; have HB := n0_; have BK318 := n1_; have GW318 := n2_; have GE318 := n3_; clear n0_ n1_ n2_ n3_; clear hb hbox hg) | ((with_reducible refine gate_dst (N := 3) rfl ?_); refine box_event ?hg (N := 3) ?hd (cs := #[.int .i64 a1_0, .int .i64 a1_1, .int .i64 a1_2, .int .i64 a1_3, .string a1_4, .string a1_5]) (t := 26) ?hr ?_; (case hd => rfl); (case hg => rfl); (case hr => first | (go_simp; done) | (go_simp; rfl)); intro gb319 hg w5 hbox hb; have n0_ := Aside0.mk (blk_below (pl BK318.out) hb); have n1_ := Aside0.mk (below_step (by repeat (first | (with_reducible first | exact HB.out | apply below_alloc | apply pw_below_drewN | apply below_drew1 | refine below_set ?_ GE318.out) | exact HB.out)) hb); have n2_ := Aside0.mk (hbox); have n3_ := Aside0.mk ((by rw [hg]; exact (below_size (by repeat (first | (with_reducible first | exact HB.out | apply below_alloc | apply pw_below_drewN | apply below_drew1 | refine below_set ?_ GE318.out) | exact HB.out))) : w.heap.size ≤ gb319)); have n4_ := Aside0.mk ((by rw [hg]; exact (below_size (by repeat (first | (with_reducible first | exact HB.out | apply below_alloc | apply pw_below_drewN | apply below_drew1 | refine below_set ?_ GE318.out) | exact HB.out))) : w.heap.size ≤ gb319)); have n5_ := Aside0.mk ((by rw [hg]; exact Nat.ne_of_lt (blk_lt (pl BK318.out)) : gb318 ≠ gb319)); have n6_ := Aside0.mk ((by rw [hg]; exact Nat.ne_of_gt (blk_lt (pl BK318.out)) : gb319 ≠ gb318)); clear BK318; clear HB; have BK318 := n0_; have HB := n1_; have BK319 := n2_; have GW319 := n3_; have GE319 := n4_; have NB318_319 := n5_; have NB319_318 := n6_; clear n0_ n1_ n2_ n3_ n4_ n5_ n6_; clear hb hbox hg) | ((with_reducible refine gate_dst (N := 4) rfl ?_); refine box_event ?hg (N := 4) ?hd (cs := #[.int .i64 0, .int .i64 0, .int .i64 0, .int .i64 0, .string (⟨#[]⟩ : ByteArray), .string (⟨#[]⟩ : ByteArray)]) (t := 26) ?hr ?_; (case hd => rfl); (case hg => rfl); (case hr => first | (go_simp; done) | (go_simp; rfl)); intro gb320 hg w6 hbox hb; have n0_ := Aside0.mk (blk_below (pl BK318.out) hb); have n1_ := Aside0.mk (blk_below (pl BK319.out) hb); have n2_ := Aside0.mk (below_step (by repeat (first | (with_reducible first | exact HB.out | apply below_alloc | apply pw_below_drewN | apply below_drew1 | refine below_set ?_ GE318.out | refine below_set ?_ GE319.out) | exact HB.out)) hb); have n3_ := Aside0.mk (hbox); have n4_ := Aside0.mk ((by rw [hg]; exact (below_size (by repeat (first | (with_reducible first | exact HB.out | apply below_alloc | apply pw_below_drewN | apply below_drew1 | refine below_set ?_ GE318.out | refine below_set ?_ GE319.out) | exact HB.out))) : w.heap.size ≤ gb320)); have n5_ := Aside0.mk ((by rw [hg]; exact (below_size (by repeat (first | (with_reducible first | exact HB.out | apply below_alloc | apply pw_below_drewN | apply below_drew1 | refine below_set ?_ GE318.out | refine below_set ?_ GE319.out) | exact HB.out))) : w.heap.size ≤ gb320)); have n6_ := Aside0.mk ((by rw [hg]; exact Nat.ne_of_lt (blk_lt (pl BK318.out)) : gb318 ≠ gb320)); have n7_ := Aside0.mk ((by rw [hg]; exact Nat.ne_of_gt (blk_lt (pl BK318.out)) : gb320 ≠ gb318)); have n8_ := Aside0.mk ((by rw [hg]; exact Nat.ne_of_lt (blk_lt (pl BK319.out)) : gb319 ≠ gb320)); have n9_ := Aside0.mk ((by rw [hg]; exact Nat.ne_of_gt (blk_lt (pl BK319.out)) : gb320 ≠ gb319)); clear BK318; clear BK319; clear HB; have BK318 := n0_; have BK319 := n1_; have HB := n2_; have BK320 := n3_; have GW320 := n4_; have GE320 := n5_; have NB318_320 := n6_; have NB320_318 := n7_; have NB319_320 := n8_; have NB320_319 := n9_; clear n0_ n1_ n2_ n3_ n4_ n5_ n6_ n7_ n8_ n9_; clear hb hbox hg))
 (try simp only [Act.put, List.setIfInBounds_toArray, List.set_cons_zero, List.set_cons_succ])
 go_cut [15] (fun v15 wc => ∃ (kq : Nat) (x15_2 : Bool), v15 = .bool x15_2 ∧ Aside0 (galleyref05_Join.j0 kq x15_2 a0_0 a0_1 a0_2 a0_3 a0_4 a0_5 a1_0 a1_1 a1_2 a1_3 a1_4 a1_5 = some (r1, r2, r3, r4, r5, r6, r7)) ∧ Aside0 (kq ≤ k) ∧ Aside0 (wc.heap[gb318]? = some (.cells #[.int .i64 a0_0, .int .i64 a0_1, .int .i64 a0_2, .int .i64 a0_3, .string a0_4, .string a0_5] 26 (0, 0))) ∧ Aside0 (wc.heap[gb319]? = some (.cells #[.int .i64 a1_0, .int .i64 a1_1, .int .i64 a1_2, .int .i64 a1_3, .string a1_4, .string a1_5] 26 (0, 0))) ∧ Aside0 (wc.heap[gb320]? = some (.cells #[.int .i64 0, .int .i64 0, .int .i64 0, .int .i64 0, .string (⟨#[]⟩ : ByteArray), .string (⟨#[]⟩ : ByteArray)] 26 (0, 0))) ∧ Aside0 (Below w.heap.size w wc))
 case first =>
  have H := HC3.out; clear HC3
  replace H := Option.bind_eq_some_iff.mp H
  obtain ⟨t321, A70, H⟩ := H
  replace H : (if t321 = true then ((galleyref05_Valid.f k a1_0 a1_1 a1_2 a1_3 a1_4 a1_5).bind fun t322 => (galleyref05_Join.j0 k (!t322) a0_0 a0_1 a0_2 a0_3 a0_4 a0_5 a1_0 a1_1 a1_2 a1_3 a1_4 a1_5)) else (galleyref05_Join.j0 k true a0_0 a0_1 a0_2 a0_3 a0_4 a0_5 a1_0 a1_1 a1_2 a1_3 a1_4 a1_5)) = some (r1, r2, r3, r4, r5, r6, r7) := H
  have A7 := Aside0.mk A70; clear A70
  by_cases c8 : t321 = true
  ·subst c8
   have H1 : ((galleyref05_Valid.f k a1_0 a1_1 a1_2 a1_3 a1_4 a1_5).bind fun t322 => (galleyref05_Join.j0 k (!t322) a0_0 a0_1 a0_2 a0_3 a0_4 a0_5 a1_0 a1_1 a1_2 a1_3 a1_4 a1_5)) = some (r1, r2, r3, r4, r5, r6, r7) := by rw [if_pos rfl] at H; exact H
   clear H; have H := H1; clear H1
   replace H := Option.bind_eq_some_iff.mp H
   obtain ⟨t322, A90, H⟩ := H
   replace H : (galleyref05_Join.j0 k (!t322) a0_0 a0_1 a0_2 a0_3 a0_4 a0_5 a1_0 a1_1 a1_2 a1_3 a1_4 a1_5) = some (r1, r2, r3, r4, r5, r6, r7) := H
   have A9 := Aside0.mk A90; clear A90; have H' := Aside0.mk H; clear H; have hnb10 := NB318_319.out; have hnc10 := NB319_318.out; have hnb11 := NB318_320.out; have hnc11 := NB320_318.out; obtain ⟨hcz12_0, hcz12_1, hcz12_2, hcz12_3, hcz12_4, hcz12_5⟩ := c6 BK318.out; obtain ⟨hfz12_0, hfz12_1, hfz12_2, hfz12_3, hfz12_4, hfz12_5⟩ := f6 BK318.out
   go_wp2_with (first | ((with_reducible refine gate_callee (f := 16) rfl ?_); refine goesL_ (some 9) rfl rfl Tryd.func16 (by kernel_rfl) rfl #[.agg #[.int .i64 a0_0, .int .i64 a0_1, .int .i64 a0_2, .int .i64 a0_3, .string a0_4, .string a0_5]] rfl (by (try simp only [List.map_toArray, List.map_cons, List.map_nil]); first | done | rfl | (simp only [List.length_drop, List.length_take]; rfl)) ?_; (with_reducible refine (galleyref05_Valid.calls k a0_0 a0_1 a0_2 a0_3 a0_4 a0_5 true _ A7.out).mono ?_); rintro e w13 ⟨rfl, hb⟩; refine ⟨_, rfl, ?_⟩; have n0_ := Aside0.mk (blk_below (pl BK318.out) hb); have n1_ := Aside0.mk (blk_below (pl BK319.out) hb); have n2_ := Aside0.mk (blk_below (pl BK320.out) hb); have n3_ := Aside0.mk (below_step (by repeat (first | (with_reducible first | exact HB.out | apply below_alloc | apply pw_below_drewN | apply below_drew1 | refine below_set ?_ GE318.out | refine below_set ?_ GE319.out | refine below_set ?_ GE320.out) | exact HB.out)) hb); clear BK318; clear BK319; clear BK320; clear HB; have BK318 := n0_; have BK319 := n1_; have BK320 := n2_; have HB := n3_; clear n0_ n1_ n2_ n3_; (try clear hb); (try clear hb2); (try clear hk); (try clear hi); have hnb14 := NB319_320.out; have hnc14 := NB320_319.out; obtain ⟨hcz15_0, hcz15_1, hcz15_2, hcz15_3, hcz15_4, hcz15_5⟩ := c6 BK319.out; obtain ⟨hfz15_0, hfz15_1, hfz15_2, hfz15_3, hfz15_4, hfz15_5⟩ := f6 BK319.out) | (go_at_call 16; (with_reducible refine (galleyref05_Valid.calls k a1_0 a1_1 a1_2 a1_3 a1_4 a1_5 t322 _ A9.out).mono ?_); rintro e w16 ⟨rfl, hb⟩; have n0_ := Aside0.mk (blk_below (pl BK318.out) hb); have n1_ := Aside0.mk (blk_below (pl BK319.out) hb); have n2_ := Aside0.mk (blk_below (pl BK320.out) hb); have n3_ := Aside0.mk (below_step (by repeat (first | (with_reducible first | exact HB.out | apply below_alloc | apply pw_below_drewN | apply below_drew1 | refine below_set ?_ GE318.out | refine below_set ?_ GE319.out | refine below_set ?_ GE320.out) | exact HB.out)) hb); clear BK318; clear BK319; clear BK320; clear HB; have BK318 := n0_; have BK319 := n1_; have BK320 := n2_; have HB := n3_; clear n0_ n1_ n2_ n3_; (try clear hb); (try clear hb2); (try clear hk); (try clear hi)))
   go_meet
   case rel => exact ⟨_, (!t322), (by first | rfl | (simp; done) | (simp [*]; done)), H', ⟨by first | omega | exact Nat.le_refl _⟩, ⟨pl BK318.out⟩, ⟨pl BK319.out⟩, ⟨pl BK320.out⟩, ⟨by repeat (first | (with_reducible first | exact HB.out | apply below_alloc | apply pw_below_drewN | apply below_drew1 | refine below_set ?_ GE318.out | refine below_set ?_ GE319.out | refine below_set ?_ GE320.out) | exact HB.out)⟩⟩
  ·replace c8 := Bool.eq_false_iff.mpr c8
   subst c8
   have H1 : (galleyref05_Join.j0 k true a0_0 a0_1 a0_2 a0_3 a0_4 a0_5 a1_0 a1_1 a1_2 a1_3 a1_4 a1_5) = some (r1, r2, r3, r4, r5, r6, r7) := by rw [if_neg (show ¬ (false = true) by decide)] at H; exact H
   clear H; have H := H1; clear H1; have H' := Aside0.mk H; clear H; have hnb17 := NB318_319.out; have hnc17 := NB319_318.out; have hnb18 := NB318_320.out; have hnc18 := NB320_318.out; obtain ⟨hcz19_0, hcz19_1, hcz19_2, hcz19_3, hcz19_4, hcz19_5⟩ := c6 BK318.out; obtain ⟨hfz19_0, hfz19_1, hfz19_2, hfz19_3, hfz19_4, hfz19_5⟩ := f6 BK318.out
   go_wp2_with (first | ((with_reducible refine gate_callee (f := 16) rfl ?_); refine goesL_ (some 9) rfl rfl Tryd.func16 (by kernel_rfl) rfl #[.agg #[.int .i64 a0_0, .int .i64 a0_1, .int .i64 a0_2, .int .i64 a0_3, .string a0_4, .string a0_5]] rfl (by (try simp only [List.map_toArray, List.map_cons, List.map_nil]); first | done | rfl | (simp only [List.length_drop, List.length_take]; rfl)) ?_; (with_reducible refine (galleyref05_Valid.calls k a0_0 a0_1 a0_2 a0_3 a0_4 a0_5 false _ A7.out).mono ?_); rintro e w20 ⟨rfl, hb⟩; refine ⟨_, rfl, ?_⟩; have n0_ := Aside0.mk (blk_below (pl BK318.out) hb); have n1_ := Aside0.mk (blk_below (pl BK319.out) hb); have n2_ := Aside0.mk (blk_below (pl BK320.out) hb); have n3_ := Aside0.mk (below_step (by repeat (first | (with_reducible first | exact HB.out | apply below_alloc | apply pw_below_drewN | apply below_drew1 | refine below_set ?_ GE318.out | refine below_set ?_ GE319.out | refine below_set ?_ GE320.out) | exact HB.out)) hb); clear BK318; clear BK319; clear BK320; clear HB; have BK318 := n0_; have BK319 := n1_; have BK320 := n2_; have HB := n3_; clear n0_ n1_ n2_ n3_; (try clear hb); (try clear hb2); (try clear hk); (try clear hi)))
   go_meet
   case rel => exact ⟨_, (true), (by first | rfl | (simp; done) | (simp [*]; done)), H', ⟨by first | omega | exact Nat.le_refl _⟩, ⟨pl BK318.out⟩, ⟨pl BK319.out⟩, ⟨pl BK320.out⟩, ⟨by repeat (first | (with_reducible first | exact HB.out | apply below_alloc | apply pw_below_drewN | apply below_drew1 | refine below_set ?_ GE318.out | refine below_set ?_ GE319.out | refine below_set ?_ GE320.out) | exact HB.out)⟩⟩
 case rest =>
  clear HC3; (try clear c1); (try clear p2); (try clear c8); (try clear c10); (try clear c11); (try clear c14); (try clear c16); (try clear c17); (try clear c18); (try clear hcz12_0); (try clear hcz12_1); (try clear hcz12_2); (try clear hcz12_3); (try clear hcz12_4); (try clear hcz12_5); (try clear hcz15_0); (try clear hcz15_1); (try clear hcz15_2); (try clear hcz15_3); (try clear hcz15_4); (try clear hcz15_5); (try clear hcz19_0); (try clear hcz19_1); (try clear hcz19_2); (try clear hcz19_3); (try clear hcz19_4); (try clear hcz19_5); (try clear hfz12_0); (try clear hfz12_1); (try clear hfz12_2); (try clear hfz12_3); (try clear hfz12_4); (try clear hfz12_5); (try clear hfz15_0); (try clear hfz15_1); (try clear hfz15_2); (try clear hfz15_3); (try clear hfz15_4); (try clear hfz15_5); (try clear hfz19_0); (try clear hfz19_1); (try clear hfz19_2); (try clear hfz19_3); (try clear hfz19_4); (try clear hfz19_5)
  obtain ⟨kq, x15_2, rfl, HA, HJ2, BK318, BK319, BK320, HB⟩ := hcut
  cases kq with
  | zero => exact absurd HA.out (by simp [galleyref05_Join.j0])
  | succ kj2 =>
   have H := HA.out; clear HA
   simp only [galleyref05_Join.j0] at H
   by_cases c21 : x15_2 = true
   ·subst c21
    have H1 : (some (0, 0, 0, 0, (⟨#[]⟩ : ByteArray), (⟨#[]⟩ : ByteArray), 50)) = some (r1, r2, r3, r4, r5, r6, r7) := by rw [if_pos rfl] at H; exact H
    clear H; have H := H1; clear H1
    simp only [Option.some.injEq, Prod.mk.injEq] at H
    obtain ⟨rfl, rfl, rfl, rfl, rfl, rfl, rfl⟩ := H
    have hnb22 := NB320_318.out; have hnc22 := NB318_320.out; have hnb23 := NB320_319.out; have hnc23 := NB319_320.out; obtain ⟨hcz24_0, hcz24_1, hcz24_2, hcz24_3, hcz24_4, hcz24_5⟩ := c6 BK320.out; obtain ⟨hfz24_0, hfz24_1, hfz24_2, hfz24_3, hfz24_4, hfz24_5⟩ := f6 BK320.out
    go_wp2
    refine bodyPost_ret (results_ct rfl _ _ gb320 26 #[.int .i64 0, .int .i64 0, .int .i64 0, .int .i64 0, .string (⟨#[]⟩ : ByteArray), .string (⟨#[]⟩ : ByteArray)] (0, 0) _ rfl (by refine pl ?_; refine blk_put (cs := #[.int .i64 0, .int .i64 0, .int .i64 0, .int .i64 0, .string (⟨#[]⟩ : ByteArray), .string (⟨#[]⟩ : ByteArray)]) ?_ 5 _ rfl; refine pl ?_; refine blk_put (cs := #[.int .i64 0, .int .i64 0, .int .i64 0, .int .i64 0, .string (⟨#[]⟩ : ByteArray), .string (⟨#[]⟩ : ByteArray)]) ?_ 4 _ rfl; refine pl ?_; refine blk_put (cs := #[.int .i64 0, .int .i64 0, .int .i64 0, .int .i64 0, .string (⟨#[]⟩ : ByteArray), .string (⟨#[]⟩ : ByteArray)]) ?_ 3 _ rfl; refine pl ?_; refine blk_put (cs := #[.int .i64 0, .int .i64 0, .int .i64 0, .int .i64 0, .string (⟨#[]⟩ : ByteArray), .string (⟨#[]⟩ : ByteArray)]) ?_ 2 _ rfl; refine pl ?_; refine blk_put (cs := #[.int .i64 0, .int .i64 0, .int .i64 0, .int .i64 0, .string (⟨#[]⟩ : ByteArray), .string (⟨#[]⟩ : ByteArray)]) ?_ 1 _ rfl; refine pl ?_; refine blk_put (cs := #[.int .i64 0, .int .i64 0, .int .i64 0, .int .i64 0, .string (⟨#[]⟩ : ByteArray), .string (⟨#[]⟩ : ByteArray)]) ?_ 0 _ rfl; refine pl ?_; exact BK320.out) Tryd.underlying26 rfl (by kernel_rfl)) rfl ?_
    exact ⟨by first | rfl | (simp [errW_none, errW_some] <;> rfl) | (simp [*, errW_none, errW_some] <;> rfl), by repeat (first | (with_reducible first | exact HB.out | apply below_alloc | apply pw_below_drewN | apply below_drew1 | refine below_set ?_ GE318.out | refine below_set ?_ GE319.out | refine below_set ?_ GE320.out) | exact HB.out)⟩
   ·replace c21 := Bool.eq_false_iff.mpr c21
    subst c21
    have H1 : (if (wrap64 (a0_0 + a1_0)) > 268435456 then (some (0, 0, 0, 0, (⟨#[]⟩ : ByteArray), (⟨#[]⟩ : ByteArray), 5)) else ((galleyref05_seam.f kj2 a0_0 a0_1 a0_2 a0_3 a0_4 a0_5 a1_0 a1_1 a1_2 a1_3 a1_4 a1_5).bind fun bt323 => (if (a0_4.size : Int) < 3 then (if a0_4.size + a1_4.size ≤ 9223372036854775807 then ((galleyref05_head.f (a0_4 ++ a1_4)).bind fun t329 => (galleyref05_Join.j1 kj2 a0_0 a0_1 a0_2 a0_3 a0_4 a0_5 a1_0 a1_1 a1_2 a1_3 a1_4 a1_5 bt323.1 bt323.2.1 bt323.2.2.1 bt323.2.2.2 0 0 0 0 t329 a1_5)) else (none)) else (galleyref05_Join.j1 kj2 a0_0 a0_1 a0_2 a0_3 a0_4 a0_5 a1_0 a1_1 a1_2 a1_3 a1_4 a1_5 bt323.1 bt323.2.1 bt323.2.2.1 bt323.2.2.2 0 0 0 0 a0_4 a1_5)))) = some (r1, r2, r3, r4, r5, r6, r7) := by rw [if_neg (show ¬ (false = true) by decide)] at H; exact H
    clear H; have H := H1; clear H1
    by_cases c25 : (wrap64 (a0_0 + a1_0)) > 268435456
    ·rw [if_pos c25] at H
     have c25b0 : decide (268435456 < (wrap64 (a0_0 + a1_0))) = true := decide_eq_true c25
     clear c25
     simp only [Option.some.injEq, Prod.mk.injEq] at H
     obtain ⟨rfl, rfl, rfl, rfl, rfl, rfl, rfl⟩ := H
     have hnb26 := NB318_319.out; have hnc26 := NB319_318.out; have hnb27 := NB318_320.out; have hnc27 := NB320_318.out; obtain ⟨hcz28_0, hcz28_1, hcz28_2, hcz28_3, hcz28_4, hcz28_5⟩ := c6 BK318.out; obtain ⟨hfz28_0, hfz28_1, hfz28_2, hfz28_3, hfz28_4, hfz28_5⟩ := f6 BK318.out; have hnb29 := NB319_320.out; have hnc29 := NB320_319.out; obtain ⟨hcz30_0, hcz30_1, hcz30_2, hcz30_3, hcz30_4, hcz30_5⟩ := c6 BK319.out; obtain ⟨hfz30_0, hfz30_1, hfz30_2, hfz30_3, hfz30_4, hfz30_5⟩ := f6 BK319.out; obtain ⟨hcz31_0, hcz31_1, hcz31_2, hcz31_3, hcz31_4, hcz31_5⟩ := c6 BK320.out; obtain ⟨hfz31_0, hfz31_1, hfz31_2, hfz31_3, hfz31_4, hfz31_5⟩ := f6 BK320.out
     go_wp2
     refine bodyPost_ret (results_ct rfl _ _ gb320 26 #[.int .i64 0, .int .i64 0, .int .i64 0, .int .i64 0, .string (⟨#[]⟩ : ByteArray), .string (⟨#[]⟩ : ByteArray)] (0, 0) _ rfl (by refine pl ?_; refine blk_put (cs := #[.int .i64 0, .int .i64 0, .int .i64 0, .int .i64 0, .string (⟨#[]⟩ : ByteArray), .string (⟨#[]⟩ : ByteArray)]) ?_ 5 _ rfl; refine pl ?_; refine blk_put (cs := #[.int .i64 0, .int .i64 0, .int .i64 0, .int .i64 0, .string (⟨#[]⟩ : ByteArray), .string (⟨#[]⟩ : ByteArray)]) ?_ 4 _ rfl; refine pl ?_; refine blk_put (cs := #[.int .i64 0, .int .i64 0, .int .i64 0, .int .i64 0, .string (⟨#[]⟩ : ByteArray), .string (⟨#[]⟩ : ByteArray)]) ?_ 3 _ rfl; refine pl ?_; refine blk_put (cs := #[.int .i64 0, .int .i64 0, .int .i64 0, .int .i64 0, .string (⟨#[]⟩ : ByteArray), .string (⟨#[]⟩ : ByteArray)]) ?_ 2 _ rfl; refine pl ?_; refine blk_put (cs := #[.int .i64 0, .int .i64 0, .int .i64 0, .int .i64 0, .string (⟨#[]⟩ : ByteArray), .string (⟨#[]⟩ : ByteArray)]) ?_ 1 _ rfl; refine pl ?_; refine blk_put (cs := #[.int .i64 0, .int .i64 0, .int .i64 0, .int .i64 0, .string (⟨#[]⟩ : ByteArray), .string (⟨#[]⟩ : ByteArray)]) ?_ 0 _ rfl; refine pl ?_; exact BK320.out) Tryd.underlying26 rfl (by kernel_rfl)) rfl ?_
     exact ⟨by first | rfl | (simp [errW_none, errW_some] <;> rfl) | (simp [*, errW_none, errW_some] <;> rfl), by repeat (first | (with_reducible first | exact HB.out | apply below_alloc | apply pw_below_drewN | apply below_drew1 | refine below_set ?_ GE318.out | refine below_set ?_ GE319.out | refine below_set ?_ GE320.out) | exact HB.out)⟩
    ·rw [if_neg c25] at H
     have c25b0 : decide (268435456 < (wrap64 (a0_0 + a1_0))) = false := decide_eq_false c25
     clear c25
     replace H := Option.bind_eq_some_iff.mp H
     obtain ⟨⟨t323, t324, t325, t326⟩, A320, H⟩ := H
     replace H : (if (a0_4.size : Int) < 3 then (if a0_4.size + a1_4.size ≤ 9223372036854775807 then ((galleyref05_head.f (a0_4 ++ a1_4)).bind fun t329 => (galleyref05_Join.j1 kj2 a0_0 a0_1 a0_2 a0_3 a0_4 a0_5 a1_0 a1_1 a1_2 a1_3 a1_4 a1_5 t323 t324 t325 t326 0 0 0 0 t329 a1_5)) else (none)) else (galleyref05_Join.j1 kj2 a0_0 a0_1 a0_2 a0_3 a0_4 a0_5 a1_0 a1_1 a1_2 a1_3 a1_4 a1_5 t323 t324 t325 t326 0 0 0 0 a0_4 a1_5)) = some (r1, r2, r3, r4, r5, r6, r7) := H
     have A32 := Aside0.mk A320; clear A320; have HC33 := Aside0.mk H; clear H; have hnb34 := NB318_319.out; have hnc34 := NB319_318.out; have hnb35 := NB318_320.out; have hnc35 := NB320_318.out; obtain ⟨hcz36_0, hcz36_1, hcz36_2, hcz36_3, hcz36_4, hcz36_5⟩ := c6 BK318.out; obtain ⟨hfz36_0, hfz36_1, hfz36_2, hfz36_3, hfz36_4, hfz36_5⟩ := f6 BK318.out; have hnb37 := NB319_320.out; have hnc37 := NB320_319.out; obtain ⟨hcz38_0, hcz38_1, hcz38_2, hcz38_3, hcz38_4, hcz38_5⟩ := c6 BK319.out; obtain ⟨hfz38_0, hfz38_1, hfz38_2, hfz38_3, hfz38_4, hfz38_5⟩ := f6 BK319.out
     go_upto_if 37 with (first | ((with_reducible refine gate_callee (f := 33) rfl ?_); refine goesL_ (some 28) rfl rfl Tryd.func33 (by kernel_rfl) rfl #[.agg #[.int .i64 a0_0, .int .i64 a0_1, .int .i64 a0_2, .int .i64 a0_3, .string a0_4, .string a0_5], .agg #[.int .i64 a1_0, .int .i64 a1_1, .int .i64 a1_2, .int .i64 a1_3, .string a1_4, .string a1_5]] rfl (by (try simp only [List.map_toArray, List.map_cons, List.map_nil]); first | done | rfl | (simp only [List.length_drop, List.length_take]; rfl)) ?_; (with_reducible refine (galleyref05_seam.calls kj2 a0_0 a0_1 a0_2 a0_3 a0_4 a0_5 a1_0 a1_1 a1_2 a1_3 a1_4 a1_5 t323 t324 t325 t326 _ A32.out).mono ?_); rintro e w39 ⟨rfl, hb⟩; refine ⟨_, rfl, ?_⟩; have n0_ := Aside0.mk (blk_below (pl BK318.out) hb); have n1_ := Aside0.mk (blk_below (pl BK319.out) hb); have n2_ := Aside0.mk (blk_below (pl BK320.out) hb); have n3_ := Aside0.mk (below_step (by repeat (first | (with_reducible first | exact HB.out | apply below_alloc | apply pw_below_drewN | apply below_drew1 | refine below_set ?_ GE318.out | refine below_set ?_ GE319.out | refine below_set ?_ GE320.out) | exact HB.out)) hb); clear BK318; clear BK319; clear BK320; clear HB; have BK318 := n0_; have BK319 := n1_; have BK320 := n2_; have HB := n3_; clear n0_ n1_ n2_ n3_; (try clear hb); (try clear hb2); (try clear hk); (try clear hi)) | ((with_reducible refine gate_dst (N := 6) rfl ?_); refine box_event ?hg (N := 6) ?hd (cs := #[.int .i64 0, .int .i64 0, .int .i64 0, .int .i64 0]) (t := 24) ?hr ?_; (case hd => rfl); (case hg => rfl); (case hr => first | (go_simp; done) | (go_simp; rfl)); intro gb327 hg w40 hbox hb; have n0_ := Aside0.mk (blk_below (pl BK318.out) hb); have n1_ := Aside0.mk (blk_below (pl BK319.out) hb); have n2_ := Aside0.mk (blk_below (pl BK320.out) hb); have n3_ := Aside0.mk (below_step (by repeat (first | (with_reducible first | exact HB.out | apply below_alloc | apply pw_below_drewN | apply below_drew1 | refine below_set ?_ GE318.out | refine below_set ?_ GE319.out | refine below_set ?_ GE320.out) | exact HB.out)) hb); have n4_ := Aside0.mk (hbox); have n5_ := Aside0.mk ((by rw [hg]; exact (below_size (by repeat (first | (with_reducible first | exact HB.out | apply below_alloc | apply pw_below_drewN | apply below_drew1 | refine below_set ?_ GE318.out | refine below_set ?_ GE319.out | refine below_set ?_ GE320.out) | exact HB.out))) : w.heap.size ≤ gb327)); have n6_ := Aside0.mk ((by rw [hg]; exact (below_size (by repeat (first | (with_reducible first | exact HB.out | apply below_alloc | apply pw_below_drewN | apply below_drew1 | refine below_set ?_ GE318.out | refine below_set ?_ GE319.out | refine below_set ?_ GE320.out) | exact HB.out))) : w.heap.size ≤ gb327)); have n7_ := Aside0.mk ((by rw [hg]; exact Nat.ne_of_lt (blk_lt (pl BK318.out)) : gb318 ≠ gb327)); have n8_ := Aside0.mk ((by rw [hg]; exact Nat.ne_of_gt (blk_lt (pl BK318.out)) : gb327 ≠ gb318)); have n9_ := Aside0.mk ((by rw [hg]; exact Nat.ne_of_lt (blk_lt (pl BK319.out)) : gb319 ≠ gb327)); have n10_ := Aside0.mk ((by rw [hg]; exact Nat.ne_of_gt (blk_lt (pl BK319.out)) : gb327 ≠ gb319)); have n11_ := Aside0.mk ((by rw [hg]; exact Nat.ne_of_lt (blk_lt (pl BK320.out)) : gb320 ≠ gb327)); have n12_ := Aside0.mk ((by rw [hg]; exact Nat.ne_of_gt (blk_lt (pl BK320.out)) : gb327 ≠ gb320)); clear BK318; clear BK319; clear BK320; clear HB; have BK318 := n0_; have BK319 := n1_; have BK320 := n2_; have HB := n3_; have BK327 := n4_; have GW327 := n5_; have GE327 := n6_; have NB318_327 := n7_; have NB327_318 := n8_; have NB319_327 := n9_; have NB327_319 := n10_; have NB320_327 := n11_; have NB327_320 := n12_; clear n0_ n1_ n2_ n3_ n4_ n5_ n6_ n7_ n8_ n9_ n10_ n11_ n12_; clear hb hbox hg; have hnb41 := NB327_318.out; have hnc41 := NB318_327.out; have hnb42 := NB327_319.out; have hnc42 := NB319_327.out; have hnb43 := NB327_320.out; have hnc43 := NB320_327.out; obtain ⟨hcz44_0, hcz44_1, hcz44_2, hcz44_3⟩ := c4 BK327.out; obtain ⟨hfz44_0, hfz44_1, hfz44_2, hfz44_3⟩ := f4 BK327.out; obtain ⟨hcz45_0, hcz45_1, hcz45_2, hcz45_3, hcz45_4, hcz45_5⟩ := c6 BK318.out; obtain ⟨hfz45_0, hfz45_1, hfz45_2, hfz45_3, hfz45_4, hfz45_5⟩ := f6 BK318.out; obtain ⟨hcz46_0, hcz46_1, hcz46_2, hcz46_3, hcz46_4, hcz46_5⟩ := c6 BK319.out; obtain ⟨hfz46_0, hfz46_1, hfz46_2, hfz46_3, hfz46_4, hfz46_5⟩ := f6 BK319.out) | ((with_reducible refine gate_dst (N := 7) rfl ?_); refine box_event ?hg (N := 7) ?hd (cs := #[.int .i64 0, .int .i64 0, .int .i64 0, .int .i64 0, .string (⟨#[]⟩ : ByteArray), .string (⟨#[]⟩ : ByteArray)]) (t := 26) ?hr ?_; (case hd => rfl); (case hg => rfl); (case hr => first | (go_simp; done) | (go_simp; rfl)); intro gb328 hg w47 hbox hb; have n0_ := Aside0.mk (blk_below (g := gb318) (o := .cells #[.int .i64 a0_0, .int .i64 a0_1, .int .i64 a0_2, .int .i64 a0_3, .string a0_4, .string a0_5] 26 (0, 0)) (by refine pl ?_; refine blk_far ?_ NB318_327.out _; refine pl ?_; refine blk_far ?_ NB318_327.out _; refine pl ?_; refine blk_far ?_ NB318_327.out _; refine pl ?_; refine blk_far ?_ NB318_327.out _; refine pl ?_; exact BK318.out) hb); have n1_ := Aside0.mk (blk_below (g := gb319) (o := .cells #[.int .i64 a1_0, .int .i64 a1_1, .int .i64 a1_2, .int .i64 a1_3, .string a1_4, .string a1_5] 26 (0, 0)) (by refine pl ?_; refine blk_far ?_ NB319_327.out _; refine pl ?_; refine blk_far ?_ NB319_327.out _; refine pl ?_; refine blk_far ?_ NB319_327.out _; refine pl ?_; refine blk_far ?_ NB319_327.out _; refine pl ?_; exact BK319.out) hb); have n2_ := Aside0.mk (blk_below (g := gb320) (o := .cells #[.int .i64 0, .int .i64 0, .int .i64 0, .int .i64 0, .string (⟨#[]⟩ : ByteArray), .string (⟨#[]⟩ : ByteArray)] 26 (0, 0)) (by refine pl ?_; refine blk_far ?_ NB320_327.out _; refine pl ?_; refine blk_far ?_ NB320_327.out _; refine pl ?_; refine blk_far ?_ NB320_327.out _; refine pl ?_; refine blk_far ?_ NB320_327.out _; refine pl ?_; exact BK320.out) hb); have n3_ := Aside0.mk (blk_below (g := gb327) (o := .cells #[.int .i64 t323, .int .i64 t324, .int .i64 t325, .int .i64 t326] 24 (0, 0)) (by refine pl ?_; refine blk_put (cs := #[.int .i64 t323, .int .i64 t324, .int .i64 t325, .int .i64 0]) ?_ 3 _ rfl; refine pl ?_; refine blk_put (cs := #[.int .i64 t323, .int .i64 t324, .int .i64 0, .int .i64 0]) ?_ 2 _ rfl; refine pl ?_; refine blk_put (cs := #[.int .i64 t323, .int .i64 0, .int .i64 0, .int .i64 0]) ?_ 1 _ rfl; refine pl ?_; refine blk_put (cs := #[.int .i64 0, .int .i64 0, .int .i64 0, .int .i64 0]) ?_ 0 _ rfl; refine pl ?_; exact BK327.out) hb); have n4_ := Aside0.mk (below_step (by repeat (first | (with_reducible first | exact HB.out | apply below_alloc | apply pw_below_drewN | apply below_drew1 | refine below_set ?_ GE318.out | refine below_set ?_ GE319.out | refine below_set ?_ GE320.out | refine below_set ?_ GE327.out) | exact HB.out)) hb); have n5_ := Aside0.mk (hbox); have n6_ := Aside0.mk ((by rw [hg]; exact (below_size (by repeat (first | (with_reducible first | exact HB.out | apply below_alloc | apply pw_below_drewN | apply below_drew1 | refine below_set ?_ GE318.out | refine below_set ?_ GE319.out | refine below_set ?_ GE320.out | refine below_set ?_ GE327.out) | exact HB.out))) : w.heap.size ≤ gb328)); have n7_ := Aside0.mk ((by rw [hg]; exact (below_size (by repeat (first | (with_reducible first | exact HB.out | apply below_alloc | apply pw_below_drewN | apply below_drew1 | refine below_set ?_ GE318.out | refine below_set ?_ GE319.out | refine below_set ?_ GE320.out | refine below_set ?_ GE327.out) | exact HB.out))) : w.heap.size ≤ gb328)); have n8_ := Aside0.mk ((by rw [hg]; exact Nat.ne_of_lt (blk_lt (g := gb318) (o := .cells #[.int .i64 a0_0, .int .i64 a0_1, .int .i64 a0_2, .int .i64 a0_3, .string a0_4, .string a0_5] 26 (0, 0)) (by refine pl ?_; refine blk_far ?_ NB318_327.out _; refine pl ?_; refine blk_far ?_ NB318_327.out _; refine pl ?_; refine blk_far ?_ NB318_327.out _; refine pl ?_; refine blk_far ?_ NB318_327.out _; refine pl ?_; exact BK318.out)) : gb318 ≠ gb328)); have n9_ := Aside0.mk ((by rw [hg]; exact Nat.ne_of_gt (blk_lt (g := gb318) (o := .cells #[.int .i64 a0_0, .int .i64 a0_1, .int .i64 a0_2, .int .i64 a0_3, .string a0_4, .string a0_5] 26 (0, 0)) (by refine pl ?_; refine blk_far ?_ NB318_327.out _; refine pl ?_; refine blk_far ?_ NB318_327.out _; refine pl ?_; refine blk_far ?_ NB318_327.out _; refine pl ?_; refine blk_far ?_ NB318_327.out _; refine pl ?_; exact BK318.out)) : gb328 ≠ gb318)); have n10_ := Aside0.mk ((by rw [hg]; exact Nat.ne_of_lt (blk_lt (g := gb319) (o := .cells #[.int .i64 a1_0, .int .i64 a1_1, .int .i64 a1_2, .int .i64 a1_3, .string a1_4, .string a1_5] 26 (0, 0)) (by refine pl ?_; refine blk_far ?_ NB319_327.out _; refine pl ?_; refine blk_far ?_ NB319_327.out _; refine pl ?_; refine blk_far ?_ NB319_327.out _; refine pl ?_; refine blk_far ?_ NB319_327.out _; refine pl ?_; exact BK319.out)) : gb319 ≠ gb328)); have n11_ := Aside0.mk ((by rw [hg]; exact Nat.ne_of_gt (blk_lt (g := gb319) (o := .cells #[.int .i64 a1_0, .int .i64 a1_1, .int .i64 a1_2, .int .i64 a1_3, .string a1_4, .string a1_5] 26 (0, 0)) (by refine pl ?_; refine blk_far ?_ NB319_327.out _; refine pl ?_; refine blk_far ?_ NB319_327.out _; refine pl ?_; refine blk_far ?_ NB319_327.out _; refine pl ?_; refine blk_far ?_ NB319_327.out _; refine pl ?_; exact BK319.out)) : gb328 ≠ gb319)); have n12_ := Aside0.mk ((by rw [hg]; exact Nat.ne_of_lt (blk_lt (g := gb320) (o := .cells #[.int .i64 0, .int .i64 0, .int .i64 0, .int .i64 0, .string (⟨#[]⟩ : ByteArray), .string (⟨#[]⟩ : ByteArray)] 26 (0, 0)) (by refine pl ?_; refine blk_far ?_ NB320_327.out _; refine pl ?_; refine blk_far ?_ NB320_327.out _; refine pl ?_; refine blk_far ?_ NB320_327.out _; refine pl ?_; refine blk_far ?_ NB320_327.out _; refine pl ?_; exact BK320.out)) : gb320 ≠ gb328)); have n13_ := Aside0.mk ((by rw [hg]; exact Nat.ne_of_gt (blk_lt (g := gb320) (o := .cells #[.int .i64 0, .int .i64 0, .int .i64 0, .int .i64 0, .string (⟨#[]⟩ : ByteArray), .string (⟨#[]⟩ : ByteArray)] 26 (0, 0)) (by refine pl ?_; refine blk_far ?_ NB320_327.out _; refine pl ?_; refine blk_far ?_ NB320_327.out _; refine pl ?_; refine blk_far ?_ NB320_327.out _; refine pl ?_; refine blk_far ?_ NB320_327.out _; refine pl ?_; exact BK320.out)) : gb328 ≠ gb320)); have n14_ := Aside0.mk ((by rw [hg]; exact Nat.ne_of_lt (blk_lt (g := gb327) (o := .cells #[.int .i64 t323, .int .i64 t324, .int .i64 t325, .int .i64 t326] 24 (0, 0)) (by refine pl ?_; refine blk_put (cs := #[.int .i64 t323, .int .i64 t324, .int .i64 t325, .int .i64 0]) ?_ 3 _ rfl; refine pl ?_; refine blk_put (cs := #[.int .i64 t323, .int .i64 t324, .int .i64 0, .int .i64 0]) ?_ 2 _ rfl; refine pl ?_; refine blk_put (cs := #[.int .i64 t323, .int .i64 0, .int .i64 0, .int .i64 0]) ?_ 1 _ rfl; refine pl ?_; refine blk_put (cs := #[.int .i64 0, .int .i64 0, .int .i64 0, .int .i64 0]) ?_ 0 _ rfl; refine pl ?_; exact BK327.out)) : gb327 ≠ gb328)); have n15_ := Aside0.mk ((by rw [hg]; exact Nat.ne_of_gt (blk_lt (g := gb327) (o := .cells #[.int .i64 t323, .int .i64 t324, .int .i64 t325, .int .i64 t326] 24 (0, 0)) (by refine pl ?_; refine blk_put (cs := #[.int .i64 t323, .int .i64 t324, .int .i64 t325, .int .i64 0]) ?_ 3 _ rfl; refine pl ?_; refine blk_put (cs := #[.int .i64 t323, .int .i64 t324, .int .i64 0, .int .i64 0]) ?_ 2 _ rfl; refine pl ?_; refine blk_put (cs := #[.int .i64 t323, .int .i64 0, .int .i64 0, .int .i64 0]) ?_ 1 _ rfl; refine pl ?_; refine blk_put (cs := #[.int .i64 0, .int .i64 0, .int .i64 0, .int .i64 0]) ?_ 0 _ rfl; refine pl ?_; exact BK327.out)) : gb328 ≠ gb327)); clear BK318; clear BK319; clear BK320; clear BK327; clear HB; have BK318 := n0_; have BK319 := n1_; have BK320 := n2_; have BK327 := n3_; have HB := n4_; have BK328 := n5_; have GW328 := n6_; have GE328 := n7_; have NB318_328 := n8_; have NB328_318 := n9_; have NB319_328 := n10_; have NB328_319 := n11_; have NB320_328 := n12_; have NB328_320 := n13_; have NB327_328 := n14_; have NB328_327 := n15_; clear n0_ n1_ n2_ n3_ n4_ n5_ n6_ n7_ n8_ n9_ n10_ n11_ n12_ n13_ n14_ n15_; clear hb hbox hg; have hnb48 := NB328_318.out; have hnc48 := NB318_328.out; have hnb49 := NB328_319.out; have hnc49 := NB319_328.out; have hnb50 := NB328_320.out; have hnc50 := NB320_328.out; have hnb51 := NB328_327.out; have hnc51 := NB327_328.out; obtain ⟨hcz52_0, hcz52_1, hcz52_2, hcz52_3, hcz52_4, hcz52_5⟩ := c6 BK328.out; obtain ⟨hfz52_0, hfz52_1, hfz52_2, hfz52_3, hfz52_4, hfz52_5⟩ := f6 BK328.out; obtain ⟨hcz53_0, hcz53_1, hcz53_2, hcz53_3, hcz53_4, hcz53_5⟩ := c6 BK318.out; obtain ⟨hfz53_0, hfz53_1, hfz53_2, hfz53_3, hfz53_4, hfz53_5⟩ := f6 BK318.out))
     (try simp only [Act.put, List.setIfInBounds_toArray, List.set_cons_zero, List.set_cons_succ])
     go_cut [] (fun wc => ∃ (kq : Nat) (x329004_32 : ByteArray), Aside0 (galleyref05_Join.j1 kq a0_0 a0_1 a0_2 a0_3 a0_4 a0_5 a1_0 a1_1 a1_2 a1_3 a1_4 a1_5 t323 t324 t325 t326 0 0 0 0 x329004_32 a1_5 = some (r1, r2, r3, r4, r5, r6, r7)) ∧ Aside0 (kq ≤ kj2) ∧ Aside0 (wc.heap[gb318]? = some (.cells #[.int .i64 a0_0, .int .i64 a0_1, .int .i64 a0_2, .int .i64 a0_3, .string a0_4, .string a0_5] 26 (0, 0))) ∧ Aside0 (wc.heap[gb319]? = some (.cells #[.int .i64 a1_0, .int .i64 a1_1, .int .i64 a1_2, .int .i64 a1_3, .string a1_4, .string a1_5] 26 (0, 0))) ∧ Aside0 (wc.heap[gb320]? = some (.cells #[.int .i64 0, .int .i64 0, .int .i64 0, .int .i64 0, .string (⟨#[]⟩ : ByteArray), .string (⟨#[]⟩ : ByteArray)] 26 (0, 0))) ∧ Aside0 (wc.heap[gb327]? = some (.cells #[.int .i64 t323, .int .i64 t324, .int .i64 t325, .int .i64 t326] 24 (0, 0))) ∧ Aside0 (wc.heap[gb328]? = some (.cells #[.int .i64 0, .int .i64 0, .int .i64 0, .int .i64 0, .string x329004_32, .string a1_5] 26 (0, 0))) ∧ Aside0 (Below w.heap.size w wc))
     case first =>
      have H := HC33.out; clear HC33
      by_cases c54 : (a0_4.size : Int) < 3
      ·rw [if_pos c54] at H
       have c54b0 : decide ((a0_4.size : Int) < 3) = true := decide_eq_true c54
       have c54b1 : decide (a0_4.size < 3) = true := decide_eq_true (by omega)
       clear c54
       (first | rw [c54b0] | (simp only [i64_w, i32_w]; rw [c54b0]) | skip)
       by_cases c55 : a0_4.size + a1_4.size ≤ 9223372036854775807
       ·rw [if_pos c55] at H
        have c55b0 := eq_true c55
        have c55b1 : decide (a0_4.size + a1_4.size ≤ 9223372036854775807) = true := decide_eq_true c55
        try have c55b2 : (9223372036854775807 < a0_4.size + a1_4.size) = False := eq_false (Nat.not_lt.2 c55)
        replace H := Option.bind_eq_some_iff.mp H
        obtain ⟨t329, A560, H⟩ := H
        replace H : (galleyref05_Join.j1 kj2 a0_0 a0_1 a0_2 a0_3 a0_4 a0_5 a1_0 a1_1 a1_2 a1_3 a1_4 a1_5 t323 t324 t325 t326 0 0 0 0 t329 a1_5) = some (r1, r2, r3, r4, r5, r6, r7) := H
        have A56 := Aside0.mk A560; clear A560; have H' := Aside0.mk H; clear H; have hnb57 := NB318_319.out; have hnc57 := NB319_318.out; have hnb58 := NB318_320.out; have hnc58 := NB320_318.out; have hnb59 := NB318_327.out; have hnc59 := NB327_318.out; have hnb60 := NB318_328.out; have hnc60 := NB328_318.out; obtain ⟨hcz61_0, hcz61_1, hcz61_2, hcz61_3, hcz61_4, hcz61_5⟩ := c6 BK318.out; obtain ⟨hfz61_0, hfz61_1, hfz61_2, hfz61_3, hfz61_4, hfz61_5⟩ := f6 BK318.out; have hnb62 := NB319_320.out; have hnc62 := NB320_319.out; have hnb63 := NB319_327.out; have hnc63 := NB327_319.out; have hnb64 := NB319_328.out; have hnc64 := NB328_319.out; obtain ⟨hcz65_0, hcz65_1, hcz65_2, hcz65_3, hcz65_4, hcz65_5⟩ := c6 BK319.out; obtain ⟨hfz65_0, hfz65_1, hfz65_2, hfz65_3, hfz65_4, hfz65_5⟩ := f6 BK319.out
        go_wp2_with (first | ((with_reducible refine gate_callee (f := 27) rfl ?_); refine goesL_ (some 43) rfl rfl Tryd.func27 (by kernel_rfl) rfl #[.string (a0_4 ++ a1_4)] rfl (by (try simp only [List.map_toArray, List.map_cons, List.map_nil]); first | done | rfl | (simp only [List.length_drop, List.length_take]; rfl)) ?_; (with_reducible refine (galleyref05_head.calls (a0_4 ++ a1_4) t329 _ A56.out).mono ?_); rintro e w66 ⟨rfl, hb⟩; refine ⟨_, rfl, ?_⟩; have n0_ := Aside0.mk (blk_below (g := gb318) (o := .cells #[.int .i64 a0_0, .int .i64 a0_1, .int .i64 a0_2, .int .i64 a0_3, .string a0_4, .string a0_5] 26 (0, 0)) (by refine pl ?_; refine blk_far ?_ NB318_328.out _; refine pl ?_; refine blk_far ?_ NB318_328.out _; refine pl ?_; refine blk_far ?_ NB318_328.out _; refine pl ?_; refine blk_far ?_ NB318_328.out _; refine pl ?_; refine blk_far ?_ NB318_328.out _; refine pl ?_; refine blk_far ?_ NB318_328.out _; refine pl ?_; exact BK318.out) hb); have n1_ := Aside0.mk (blk_below (g := gb319) (o := .cells #[.int .i64 a1_0, .int .i64 a1_1, .int .i64 a1_2, .int .i64 a1_3, .string a1_4, .string a1_5] 26 (0, 0)) (by refine pl ?_; refine blk_far ?_ NB319_328.out _; refine pl ?_; refine blk_far ?_ NB319_328.out _; refine pl ?_; refine blk_far ?_ NB319_328.out _; refine pl ?_; refine blk_far ?_ NB319_328.out _; refine pl ?_; refine blk_far ?_ NB319_328.out _; refine pl ?_; refine blk_far ?_ NB319_328.out _; refine pl ?_; exact BK319.out) hb); have n2_ := Aside0.mk (blk_below (g := gb320) (o := .cells #[.int .i64 0, .int .i64 0, .int .i64 0, .int .i64 0, .string (⟨#[]⟩ : ByteArray), .string (⟨#[]⟩ : ByteArray)] 26 (0, 0)) (by refine pl ?_; refine blk_far ?_ NB320_328.out _; refine pl ?_; refine blk_far ?_ NB320_328.out _; refine pl ?_; refine blk_far ?_ NB320_328.out _; refine pl ?_; refine blk_far ?_ NB320_328.out _; refine pl ?_; refine blk_far ?_ NB320_328.out _; refine pl ?_; refine blk_far ?_ NB320_328.out _; refine pl ?_; exact BK320.out) hb); have n3_ := Aside0.mk (blk_below (g := gb327) (o := .cells #[.int .i64 t323, .int .i64 t324, .int .i64 t325, .int .i64 t326] 24 (0, 0)) (by refine pl ?_; refine blk_far ?_ NB327_328.out _; refine pl ?_; refine blk_far ?_ NB327_328.out _; refine pl ?_; refine blk_far ?_ NB327_328.out _; refine pl ?_; refine blk_far ?_ NB327_328.out _; refine pl ?_; refine blk_far ?_ NB327_328.out _; refine pl ?_; refine blk_far ?_ NB327_328.out _; refine pl ?_; exact BK327.out) hb); have n4_ := Aside0.mk (blk_below (g := gb328) (o := .cells #[.int .i64 0, .int .i64 0, .int .i64 0, .int .i64 0, .string a0_4, .string a1_5] 26 (0, 0)) (by refine pl ?_; refine blk_put (cs := #[.int .i64 0, .int .i64 0, .int .i64 0, .int .i64 0, .string a0_4, .string (⟨#[]⟩ : ByteArray)]) ?_ 5 _ rfl; refine pl ?_; refine blk_put (cs := #[.int .i64 0, .int .i64 0, .int .i64 0, .int .i64 0, .string (⟨#[]⟩ : ByteArray), .string (⟨#[]⟩ : ByteArray)]) ?_ 4 _ rfl; refine pl ?_; refine blk_put (cs := #[.int .i64 0, .int .i64 0, .int .i64 0, .int .i64 0, .string (⟨#[]⟩ : ByteArray), .string (⟨#[]⟩ : ByteArray)]) ?_ 3 _ rfl; refine pl ?_; refine blk_put (cs := #[.int .i64 0, .int .i64 0, .int .i64 0, .int .i64 0, .string (⟨#[]⟩ : ByteArray), .string (⟨#[]⟩ : ByteArray)]) ?_ 2 _ rfl; refine pl ?_; refine blk_put (cs := #[.int .i64 0, .int .i64 0, .int .i64 0, .int .i64 0, .string (⟨#[]⟩ : ByteArray), .string (⟨#[]⟩ : ByteArray)]) ?_ 1 _ rfl; refine pl ?_; refine blk_put (cs := #[.int .i64 0, .int .i64 0, .int .i64 0, .int .i64 0, .string (⟨#[]⟩ : ByteArray), .string (⟨#[]⟩ : ByteArray)]) ?_ 0 _ rfl; refine pl ?_; exact BK328.out) hb); have n5_ := Aside0.mk (below_step (by repeat (first | (with_reducible first | exact HB.out | apply below_alloc | apply pw_below_drewN | apply below_drew1 | refine below_set ?_ GE318.out | refine below_set ?_ GE319.out | refine below_set ?_ GE320.out | refine below_set ?_ GE327.out | refine below_set ?_ GE328.out) | exact HB.out)) hb); clear BK318; clear BK319; clear BK320; clear BK327; clear BK328; clear HB; have BK318 := n0_; have BK319 := n1_; have BK320 := n2_; have BK327 := n3_; have BK328 := n4_; have HB := n5_; clear n0_ n1_ n2_ n3_ n4_ n5_; (try clear hb); (try clear hb2); (try clear hk); (try clear hi); have hnb67 := NB328_320.out; have hnc67 := NB320_328.out; have hnb68 := NB328_327.out; have hnc68 := NB327_328.out; obtain ⟨hcz69_0, hcz69_1, hcz69_2, hcz69_3, hcz69_4, hcz69_5⟩ := c6 BK328.out; obtain ⟨hfz69_0, hfz69_1, hfz69_2, hfz69_3, hfz69_4, hfz69_5⟩ := f6 BK328.out))
        go_meet
        case rel => exact ⟨_, (t329), H', ⟨by have := HJ2.out; first | omega | exact Nat.le_refl _⟩, ⟨by refine pl ?_; refine blk_far ?_ NB318_328.out _; refine pl ?_; exact BK318.out⟩, ⟨by refine pl ?_; refine blk_far ?_ NB319_328.out _; refine pl ?_; exact BK319.out⟩, ⟨by refine pl ?_; refine blk_far ?_ NB320_328.out _; refine pl ?_; exact BK320.out⟩, ⟨by refine pl ?_; refine blk_far ?_ NB327_328.out _; refine pl ?_; exact BK327.out⟩, ⟨by refine pl ?_; refine blk_put (cs := #[.int .i64 0, .int .i64 0, .int .i64 0, .int .i64 0, .string a0_4, .string a1_5]) ?_ 4 _ rfl; refine pl ?_; exact BK328.out⟩, ⟨by repeat (first | (with_reducible first | exact HB.out | apply below_alloc | apply pw_below_drewN | apply below_drew1 | refine below_set ?_ GE318.out | refine below_set ?_ GE319.out | refine below_set ?_ GE320.out | refine below_set ?_ GE327.out | refine below_set ?_ GE328.out) | exact HB.out)⟩⟩
       ·rw [if_neg c55] at H
        exact absurd H (by simp)
      ·rw [if_neg c54] at H
       have c54b0 : decide ((a0_4.size : Int) < 3) = false := decide_eq_false c54
       have c54b1 : decide (a0_4.size < 3) = false := decide_eq_false (by omega)
       clear c54
       (first | rw [c54b0] | (simp only [i64_w, i32_w]; rw [c54b0]) | skip)
       have H' := Aside0.mk H; clear H
       go_wp2
       go_meet
       case rel => exact ⟨_, (a0_4), H', ⟨by have := HJ2.out; first | omega | exact Nat.le_refl _⟩, ⟨by refine pl ?_; refine blk_far ?_ NB318_328.out _; refine pl ?_; refine blk_far ?_ NB318_328.out _; refine pl ?_; refine blk_far ?_ NB318_328.out _; refine pl ?_; refine blk_far ?_ NB318_328.out _; refine pl ?_; refine blk_far ?_ NB318_328.out _; refine pl ?_; refine blk_far ?_ NB318_328.out _; refine pl ?_; exact BK318.out⟩, ⟨by refine pl ?_; refine blk_far ?_ NB319_328.out _; refine pl ?_; refine blk_far ?_ NB319_328.out _; refine pl ?_; refine blk_far ?_ NB319_328.out _; refine pl ?_; refine blk_far ?_ NB319_328.out _; refine pl ?_; refine blk_far ?_ NB319_328.out _; refine pl ?_; refine blk_far ?_ NB319_328.out _; refine pl ?_; exact BK319.out⟩, ⟨by refine pl ?_; refine blk_far ?_ NB320_328.out _; refine pl ?_; refine blk_far ?_ NB320_328.out _; refine pl ?_; refine blk_far ?_ NB320_328.out _; refine pl ?_; refine blk_far ?_ NB320_328.out _; refine pl ?_; refine blk_far ?_ NB320_328.out _; refine pl ?_; refine blk_far ?_ NB320_328.out _; refine pl ?_; exact BK320.out⟩, ⟨by refine pl ?_; refine blk_far ?_ NB327_328.out _; refine pl ?_; refine blk_far ?_ NB327_328.out _; refine pl ?_; refine blk_far ?_ NB327_328.out _; refine pl ?_; refine blk_far ?_ NB327_328.out _; refine pl ?_; refine blk_far ?_ NB327_328.out _; refine pl ?_; refine blk_far ?_ NB327_328.out _; refine pl ?_; exact BK327.out⟩, ⟨by refine pl ?_; refine blk_put (cs := #[.int .i64 0, .int .i64 0, .int .i64 0, .int .i64 0, .string a0_4, .string (⟨#[]⟩ : ByteArray)]) ?_ 5 _ rfl; refine pl ?_; refine blk_put (cs := #[.int .i64 0, .int .i64 0, .int .i64 0, .int .i64 0, .string (⟨#[]⟩ : ByteArray), .string (⟨#[]⟩ : ByteArray)]) ?_ 4 _ rfl; refine pl ?_; refine blk_put (cs := #[.int .i64 0, .int .i64 0, .int .i64 0, .int .i64 0, .string (⟨#[]⟩ : ByteArray), .string (⟨#[]⟩ : ByteArray)]) ?_ 3 _ rfl; refine pl ?_; refine blk_put (cs := #[.int .i64 0, .int .i64 0, .int .i64 0, .int .i64 0, .string (⟨#[]⟩ : ByteArray), .string (⟨#[]⟩ : ByteArray)]) ?_ 2 _ rfl; refine pl ?_; refine blk_put (cs := #[.int .i64 0, .int .i64 0, .int .i64 0, .int .i64 0, .string (⟨#[]⟩ : ByteArray), .string (⟨#[]⟩ : ByteArray)]) ?_ 1 _ rfl; refine pl ?_; refine blk_put (cs := #[.int .i64 0, .int .i64 0, .int .i64 0, .int .i64 0, .string (⟨#[]⟩ : ByteArray), .string (⟨#[]⟩ : ByteArray)]) ?_ 0 _ rfl; refine pl ?_; exact BK328.out⟩, ⟨by repeat (first | (with_reducible first | exact HB.out | apply below_alloc | apply pw_below_drewN | apply below_drew1 | refine below_set ?_ GE318.out | refine below_set ?_ GE319.out | refine below_set ?_ GE320.out | refine below_set ?_ GE327.out | refine below_set ?_ GE328.out) | exact HB.out)⟩⟩
     case rest =>
      clear HC33; (try clear c1); (try clear c2); (try clear p2); (try clear c3); (try clear c4); (try clear c5); (try clear c6); (try clear p6); (try clear c8); (try clear c10); (try clear c11); (try clear c14); (try clear c16); (try clear c17); (try clear c18); (try clear c21); (try clear c22); (try clear c23); (try clear c25); (try clear c25b0); (try clear c26); (try clear c27); (try clear c29); (try clear c33); (try clear c34); (try clear c35); (try clear c37); (try clear c41); (try clear c42); (try clear c43); (try clear c48); (try clear c49); (try clear c50); (try clear c51); (try clear c54); (try clear c54b0); (try clear c54b1); (try clear c55); (try clear c55b0); (try clear c55b1); (try clear c55b2); (try clear c57); (try clear c58); (try clear c59); (try clear c60); (try clear c62); (try clear c63); (try clear c64); (try clear p64); (try clear c67); (try clear c68); (try clear hcz12_0); (try clear hcz12_1); (try clear hcz12_2); (try clear hcz12_3); (try clear hcz12_4); (try clear hcz12_5); (try clear hcz15_0); (try clear hcz15_1); (try clear hcz15_2); (try clear hcz15_3); (try clear hcz15_4); (try clear hcz15_5); (try clear hcz19_0); (try clear hcz19_1); (try clear hcz19_2); (try clear hcz19_3); (try clear hcz19_4); (try clear hcz19_5); (try clear hcz24_0); (try clear hcz24_1); (try clear hcz24_2); (try clear hcz24_3); (try clear hcz24_4); (try clear hcz24_5); (try clear hcz28_0); (try clear hcz28_1); (try clear hcz28_2); (try clear hcz28_3); (try clear hcz28_4); (try clear hcz28_5); (try clear hcz30_0); (try clear hcz30_1); (try clear hcz30_2); (try clear hcz30_3); (try clear hcz30_4); (try clear hcz30_5); (try clear hcz31_0); (try clear hcz31_1); (try clear hcz31_2); (try clear hcz31_3); (try clear hcz31_4); (try clear hcz31_5); (try clear hcz36_0); (try clear hcz36_1); (try clear hcz36_2); (try clear hcz36_3); (try clear hcz36_4); (try clear hcz36_5); (try clear hcz38_0); (try clear hcz38_1); (try clear hcz38_2); (try clear hcz38_3); (try clear hcz38_4); (try clear hcz38_5); (try clear hcz44_0); (try clear hcz44_1); (try clear hcz44_2); (try clear hcz44_3); (try clear hcz45_0); (try clear hcz45_1); (try clear hcz45_2); (try clear hcz45_3); (try clear hcz45_4); (try clear hcz45_5); (try clear hcz46_0); (try clear hcz46_1); (try clear hcz46_2); (try clear hcz46_3); (try clear hcz46_4); (try clear hcz46_5); (try clear hcz52_0); (try clear hcz52_1); (try clear hcz52_2); (try clear hcz52_3); (try clear hcz52_4); (try clear hcz52_5); (try clear hcz53_0); (try clear hcz53_1); (try clear hcz53_2); (try clear hcz53_3); (try clear hcz53_4); (try clear hcz53_5); (try clear hcz61_0); (try clear hcz61_1); (try clear hcz61_2); (try clear hcz61_3); (try clear hcz61_4); (try clear hcz61_5); (try clear hcz65_0); (try clear hcz65_1); (try clear hcz65_2); (try clear hcz65_3); (try clear hcz65_4); (try clear hcz65_5); (try clear hcz69_0); (try clear hcz69_1); (try clear hcz69_2); (try clear hcz69_3); (try clear hcz69_4); (try clear hcz69_5); (try clear hfz12_0); (try clear hfz12_1); (try clear hfz12_2); (try clear hfz12_3); (try clear hfz12_4); (try clear hfz12_5); (try clear hfz15_0); (try clear hfz15_1); (try clear hfz15_2); (try clear hfz15_3); (try clear hfz15_4); (try clear hfz15_5); (try clear hfz19_0); (try clear hfz19_1); (try clear hfz19_2); (try clear hfz19_3); (try clear hfz19_4); (try clear hfz19_5); (try clear hfz24_0); (try clear hfz24_1); (try clear hfz24_2); (try clear hfz24_3); (try clear hfz24_4); (try clear hfz24_5); (try clear hfz28_0); (try clear hfz28_1); (try clear hfz28_2); (try clear hfz28_3); (try clear hfz28_4); (try clear hfz28_5); (try clear hfz30_0); (try clear hfz30_1); (try clear hfz30_2); (try clear hfz30_3); (try clear hfz30_4); (try clear hfz30_5); (try clear hfz31_0); (try clear hfz31_1); (try clear hfz31_2); (try clear hfz31_3); (try clear hfz31_4); (try clear hfz31_5); (try clear hfz36_0); (try clear hfz36_1); (try clear hfz36_2); (try clear hfz36_3); (try clear hfz36_4); (try clear hfz36_5); (try clear hfz38_0); (try clear hfz38_1); (try clear hfz38_2); (try clear hfz38_3); (try clear hfz38_4); (try clear hfz38_5); (try clear hfz44_0); (try clear hfz44_1); (try clear hfz44_2); (try clear hfz44_3); (try clear hfz45_0); (try clear hfz45_1); (try clear hfz45_2); (try clear hfz45_3); (try clear hfz45_4); (try clear hfz45_5); (try clear hfz46_0); (try clear hfz46_1); (try clear hfz46_2); (try clear hfz46_3); (try clear hfz46_4); (try clear hfz46_5); (try clear hfz52_0); (try clear hfz52_1); (try clear hfz52_2); (try clear hfz52_3); (try clear hfz52_4); (try clear hfz52_5); (try clear hfz53_0); (try clear hfz53_1); (try clear hfz53_2); (try clear hfz53_3); (try clear hfz53_4); (try clear hfz53_5); (try clear hfz61_0); (try clear hfz61_1); (try clear hfz61_2); (try clear hfz61_3); (try clear hfz61_4); (try clear hfz61_5); (try clear hfz65_0); (try clear hfz65_1); (try clear hfz65_2); (try clear hfz65_3); (try clear hfz65_4); (try clear hfz65_5); (try clear hfz69_0); (try clear hfz69_1); (try clear hfz69_2); (try clear hfz69_3); (try clear hfz69_4); (try clear hfz69_5); (try clear p2)
      obtain ⟨kq, x329004_32, HA, HJ32, BK318, BK319, BK320, BK327, BK328, HB⟩ := hcut
      cases kq with
      | zero => exact absurd HA.out (by simp [galleyref05_Join.j1])
      | succ kj32 =>
       have H := HA.out; clear HA
       simp only [galleyref05_Join.j1] at H
       by_cases c70 : (a1_5.size : Int) < 3
       ·rw [if_pos c70] at H
        have c70b0 : decide ((a1_5.size : Int) < 3) = true := decide_eq_true c70
        have c70b1 : decide (a1_5.size < 3) = true := decide_eq_true (by omega)
        clear c70
        by_cases c71 : a0_5.size + a1_5.size ≤ 9223372036854775807
        ·rw [if_pos c71] at H
         have c71b0 := eq_true c71
         have c71b1 : decide (a0_5.size + a1_5.size ≤ 9223372036854775807) = true := decide_eq_true c71
         try have c71b2 : (9223372036854775807 < a0_5.size + a1_5.size) = False := eq_false (Nat.not_lt.2 c71)
         replace H := Option.bind_eq_some_iff.mp H
         obtain ⟨t330, A720, H⟩ := H
         replace H : ((galleyref05_Valid.f kj32 (wrap64 (a0_0 + a1_0)) (wrap64 ((wrap64 (a0_1 + a1_1)) - t324)) (wrap64 ((wrap64 (a0_2 + a1_2)) - t325)) (wrap64 ((wrap64 (a0_3 + a1_3)) - t326)) x329004_32 t330).bind fun t331 => (if t331 = true then (some (wrap64 (a0_0 + a1_0), wrap64 ((wrap64 (a0_1 + a1_1)) - t324), wrap64 ((wrap64 (a0_2 + a1_2)) - t325), wrap64 ((wrap64 (a0_3 + a1_3)) - t326), x329004_32, t330, 0)) else (some (0, 0, 0, 0, (⟨#[]⟩ : ByteArray), (⟨#[]⟩ : ByteArray), 50)))) = some (r1, r2, r3, r4, r5, r6, r7) := H
         have A72 := Aside0.mk A720; clear A720
         replace H := Option.bind_eq_some_iff.mp H
         obtain ⟨t331, A730, H⟩ := H
         replace H : (if t331 = true then (some (wrap64 (a0_0 + a1_0), wrap64 ((wrap64 (a0_1 + a1_1)) - t324), wrap64 ((wrap64 (a0_2 + a1_2)) - t325), wrap64 ((wrap64 (a0_3 + a1_3)) - t326), x329004_32, t330, 0)) else (some (0, 0, 0, 0, (⟨#[]⟩ : ByteArray), (⟨#[]⟩ : ByteArray), 50))) = some (r1, r2, r3, r4, r5, r6, r7) := H
         have A73 := Aside0.mk A730; clear A730
         by_cases c74 : t331 = true
         ·subst c74
          have H1 : (some (wrap64 (a0_0 + a1_0), wrap64 ((wrap64 (a0_1 + a1_1)) - t324), wrap64 ((wrap64 (a0_2 + a1_2)) - t325), wrap64 ((wrap64 (a0_3 + a1_3)) - t326), x329004_32, t330, 0)) = some (r1, r2, r3, r4, r5, r6, r7) := by rw [if_pos rfl] at H; exact H
          clear H; have H := H1; clear H1
          simp only [Option.some.injEq, Prod.mk.injEq] at H
          obtain ⟨rfl, rfl, rfl, rfl, rfl, rfl, rfl⟩ := H
          have hnb75 := NB319_318.out; have hnc75 := NB318_319.out; have hnb76 := NB319_320.out; have hnc76 := NB320_319.out; have hnb77 := NB319_327.out; have hnc77 := NB327_319.out; have hnb78 := NB319_328.out; have hnc78 := NB328_319.out; obtain ⟨hcz79_0, hcz79_1, hcz79_2, hcz79_3, hcz79_4, hcz79_5⟩ := c6 BK319.out; obtain ⟨hfz79_0, hfz79_1, hfz79_2, hfz79_3, hfz79_4, hfz79_5⟩ := f6 BK319.out; have hnb80 := NB318_320.out; have hnc80 := NB320_318.out; have hnb81 := NB318_327.out; have hnc81 := NB327_318.out; have hnb82 := NB318_328.out; have hnc82 := NB328_318.out; obtain ⟨hcz83_0, hcz83_1, hcz83_2, hcz83_3, hcz83_4, hcz83_5⟩ := c6 BK318.out; obtain ⟨hfz83_0, hfz83_1, hfz83_2, hfz83_3, hfz83_4, hfz83_5⟩ := f6 BK318.out
          go_wp2_with (first | ((with_reducible refine gate_callee (f := 28) rfl ?_); refine goesL_ (some 54) rfl rfl Tryd.func28 (by kernel_rfl) rfl #[.string (a0_5 ++ a1_5)] rfl (by (try simp only [List.map_toArray, List.map_cons, List.map_nil]); first | done | rfl | (simp only [List.length_drop, List.length_take]; rfl)) ?_; (with_reducible refine (galleyref05_tail.calls (a0_5 ++ a1_5) t330 _ A72.out).mono ?_); rintro e w84 ⟨rfl, hb⟩; refine ⟨_, rfl, ?_⟩; have n0_ := Aside0.mk (blk_below (pl BK318.out) hb); have n1_ := Aside0.mk (blk_below (pl BK319.out) hb); have n2_ := Aside0.mk (blk_below (pl BK320.out) hb); have n3_ := Aside0.mk (blk_below (pl BK327.out) hb); have n4_ := Aside0.mk (blk_below (pl BK328.out) hb); have n5_ := Aside0.mk (below_step (by repeat (first | (with_reducible first | exact HB.out | apply below_alloc | apply pw_below_drewN | apply below_drew1 | refine below_set ?_ GE318.out | refine below_set ?_ GE319.out | refine below_set ?_ GE320.out | refine below_set ?_ GE327.out | refine below_set ?_ GE328.out) | exact HB.out)) hb); clear BK318; clear BK319; clear BK320; clear BK327; clear BK328; clear HB; have BK318 := n0_; have BK319 := n1_; have BK320 := n2_; have BK327 := n3_; have BK328 := n4_; have HB := n5_; clear n0_ n1_ n2_ n3_ n4_ n5_; (try clear hb); (try clear hb2); (try clear hk); (try clear hi); have hnb85 := NB328_320.out; have hnc85 := NB320_328.out; have hnb86 := NB328_327.out; have hnc86 := NB327_328.out; obtain ⟨hcz87_0, hcz87_1, hcz87_2, hcz87_3, hcz87_4, hcz87_5⟩ := c6 BK328.out; obtain ⟨hfz87_0, hfz87_1, hfz87_2, hfz87_3, hfz87_4, hfz87_5⟩ := f6 BK328.out; obtain ⟨hcz88_0, hcz88_1, hcz88_2, hcz88_3, hcz88_4, hcz88_5⟩ := c6 BK318.out; obtain ⟨hfz88_0, hfz88_1, hfz88_2, hfz88_3, hfz88_4, hfz88_5⟩ := f6 BK318.out; obtain ⟨hcz89_0, hcz89_1, hcz89_2, hcz89_3, hcz89_4, hcz89_5⟩ := c6 BK319.out; obtain ⟨hfz89_0, hfz89_1, hfz89_2, hfz89_3, hfz89_4, hfz89_5⟩ := f6 BK319.out; have hnb90 := NB327_320.out; have hnc90 := NB320_327.out; obtain ⟨hcz91_0, hcz91_1, hcz91_2, hcz91_3⟩ := c4 BK327.out; obtain ⟨hfz91_0, hfz91_1, hfz91_2, hfz91_3⟩ := f4 BK327.out) | ((with_reducible refine gate_callee (f := 16) rfl ?_); refine goesL_ (some 102) rfl rfl Tryd.func16 (by kernel_rfl) rfl #[.agg #[.int .i64 (wrap64 (a0_0 + a1_0)), .int .i64 (wrap64 ((wrap64 (a0_1 + a1_1)) - t324)), .int .i64 (wrap64 ((wrap64 (a0_2 + a1_2)) - t325)), .int .i64 (wrap64 ((wrap64 (a0_3 + a1_3)) - t326)), .string x329004_32, .string t330]] rfl (by (try simp only [List.map_toArray, List.map_cons, List.map_nil]); first | done | rfl | (simp only [List.length_drop, List.length_take]; rfl)) ?_; (with_reducible refine (galleyref05_Valid.calls kj32 (wrap64 (a0_0 + a1_0)) (wrap64 ((wrap64 (a0_1 + a1_1)) - t324)) (wrap64 ((wrap64 (a0_2 + a1_2)) - t325)) (wrap64 ((wrap64 (a0_3 + a1_3)) - t326)) x329004_32 t330 true _ A73.out).mono ?_); rintro e w92 ⟨rfl, hb⟩; refine ⟨_, rfl, ?_⟩; have n0_ := Aside0.mk (blk_below (g := gb318) (o := .cells #[.int .i64 a0_0, .int .i64 a0_1, .int .i64 a0_2, .int .i64 a0_3, .string a0_4, .string a0_5] 26 (0, 0)) (by refine pl ?_; refine blk_far ?_ NB318_328.out _; refine pl ?_; refine blk_far ?_ NB318_328.out _; refine pl ?_; refine blk_far ?_ NB318_328.out _; refine pl ?_; refine blk_far ?_ NB318_328.out _; refine pl ?_; refine blk_far ?_ NB318_328.out _; refine pl ?_; exact BK318.out) hb); have n1_ := Aside0.mk (blk_below (g := gb319) (o := .cells #[.int .i64 a1_0, .int .i64 a1_1, .int .i64 a1_2, .int .i64 a1_3, .string a1_4, .string a1_5] 26 (0, 0)) (by refine pl ?_; refine blk_far ?_ NB319_328.out _; refine pl ?_; refine blk_far ?_ NB319_328.out _; refine pl ?_; refine blk_far ?_ NB319_328.out _; refine pl ?_; refine blk_far ?_ NB319_328.out _; refine pl ?_; refine blk_far ?_ NB319_328.out _; refine pl ?_; exact BK319.out) hb); have n2_ := Aside0.mk (blk_below (g := gb320) (o := .cells #[.int .i64 0, .int .i64 0, .int .i64 0, .int .i64 0, .string (⟨#[]⟩ : ByteArray), .string (⟨#[]⟩ : ByteArray)] 26 (0, 0)) (by refine pl ?_; refine blk_far ?_ NB320_328.out _; refine pl ?_; refine blk_far ?_ NB320_328.out _; refine pl ?_; refine blk_far ?_ NB320_328.out _; refine pl ?_; refine blk_far ?_ NB320_328.out _; refine pl ?_; refine blk_far ?_ NB320_328.out _; refine pl ?_; exact BK320.out) hb); have n3_ := Aside0.mk (blk_below (g := gb327) (o := .cells #[.int .i64 t323, .int .i64 t324, .int .i64 t325, .int .i64 t326] 24 (0, 0)) (by refine pl ?_; refine blk_far ?_ NB327_328.out _; refine pl ?_; refine blk_far ?_ NB327_328.out _; refine pl ?_; refine blk_far ?_ NB327_328.out _; refine pl ?_; refine blk_far ?_ NB327_328.out _; refine pl ?_; refine blk_far ?_ NB327_328.out _; refine pl ?_; exact BK327.out) hb); have n4_ := Aside0.mk (blk_below (g := gb328) (o := .cells #[.int .i64 (wrap64 (a0_0 + a1_0)), .int .i64 (wrap64 ((wrap64 (a0_1 + a1_1)) - t324)), .int .i64 (wrap64 ((wrap64 (a0_2 + a1_2)) - t325)), .int .i64 (wrap64 ((wrap64 (a0_3 + a1_3)) - t326)), .string x329004_32, .string t330] 26 (0, 0)) (by refine pl ?_; refine blk_put (cs := #[.int .i64 (wrap64 (a0_0 + a1_0)), .int .i64 (wrap64 ((wrap64 (a0_1 + a1_1)) - t324)), .int .i64 (wrap64 ((wrap64 (a0_2 + a1_2)) - t325)), .int .i64 0, .string x329004_32, .string t330]) ?_ 3 _ rfl; refine pl ?_; refine blk_put (cs := #[.int .i64 (wrap64 (a0_0 + a1_0)), .int .i64 (wrap64 ((wrap64 (a0_1 + a1_1)) - t324)), .int .i64 0, .int .i64 0, .string x329004_32, .string t330]) ?_ 2 _ rfl; refine pl ?_; refine blk_put (cs := #[.int .i64 (wrap64 (a0_0 + a1_0)), .int .i64 0, .int .i64 0, .int .i64 0, .string x329004_32, .string t330]) ?_ 1 _ rfl; refine pl ?_; refine blk_put (cs := #[.int .i64 0, .int .i64 0, .int .i64 0, .int .i64 0, .string x329004_32, .string t330]) ?_ 0 _ rfl; refine pl ?_; refine blk_put (cs := #[.int .i64 0, .int .i64 0, .int .i64 0, .int .i64 0, .string x329004_32, .string a1_5]) ?_ 5 _ rfl; refine pl ?_; exact BK328.out) hb); have n5_ := Aside0.mk (below_step (by repeat (first | (with_reducible first | exact HB.out | apply below_alloc | apply pw_below_drewN | apply below_drew1 | refine below_set ?_ GE318.out | refine below_set ?_ GE319.out | refine below_set ?_ GE320.out | refine below_set ?_ GE327.out | refine below_set ?_ GE328.out) | exact HB.out)) hb); clear BK318; clear BK319; clear BK320; clear BK327; clear BK328; clear HB; have BK318 := n0_; have BK319 := n1_; have BK320 := n2_; have BK327 := n3_; have BK328 := n4_; have HB := n5_; clear n0_ n1_ n2_ n3_ n4_ n5_; (try clear hb); (try clear hb2); (try clear hk); (try clear hi); obtain ⟨hcz93_0, hcz93_1, hcz93_2, hcz93_3, hcz93_4, hcz93_5⟩ := c6 BK328.out; obtain ⟨hfz93_0, hfz93_1, hfz93_2, hfz93_3, hfz93_4, hfz93_5⟩ := f6 BK328.out; obtain ⟨hcz94_0, hcz94_1, hcz94_2, hcz94_3, hcz94_4, hcz94_5⟩ := c6 BK320.out; obtain ⟨hfz94_0, hfz94_1, hfz94_2, hfz94_3, hfz94_4, hfz94_5⟩ := f6 BK320.out))
          refine bodyPost_ret (results_ct rfl _ _ gb320 26 #[.int .i64 (wrap64 (a0_0 + a1_0)), .int .i64 (wrap64 ((wrap64 (a0_1 + a1_1)) - t324)), .int .i64 (wrap64 ((wrap64 (a0_2 + a1_2)) - t325)), .int .i64 (wrap64 ((wrap64 (a0_3 + a1_3)) - t326)), .string x329004_32, .string t330] (0, 0) _ rfl (by refine pl ?_; refine blk_put (cs := #[.int .i64 (wrap64 (a0_0 + a1_0)), .int .i64 (wrap64 ((wrap64 (a0_1 + a1_1)) - t324)), .int .i64 (wrap64 ((wrap64 (a0_2 + a1_2)) - t325)), .int .i64 (wrap64 ((wrap64 (a0_3 + a1_3)) - t326)), .string x329004_32, .string (⟨#[]⟩ : ByteArray)]) ?_ 5 _ rfl; refine pl ?_; refine blk_put (cs := #[.int .i64 (wrap64 (a0_0 + a1_0)), .int .i64 (wrap64 ((wrap64 (a0_1 + a1_1)) - t324)), .int .i64 (wrap64 ((wrap64 (a0_2 + a1_2)) - t325)), .int .i64 (wrap64 ((wrap64 (a0_3 + a1_3)) - t326)), .string (⟨#[]⟩ : ByteArray), .string (⟨#[]⟩ : ByteArray)]) ?_ 4 _ rfl; refine pl ?_; refine blk_put (cs := #[.int .i64 (wrap64 (a0_0 + a1_0)), .int .i64 (wrap64 ((wrap64 (a0_1 + a1_1)) - t324)), .int .i64 (wrap64 ((wrap64 (a0_2 + a1_2)) - t325)), .int .i64 0, .string (⟨#[]⟩ : ByteArray), .string (⟨#[]⟩ : ByteArray)]) ?_ 3 _ rfl; refine pl ?_; refine blk_put (cs := #[.int .i64 (wrap64 (a0_0 + a1_0)), .int .i64 (wrap64 ((wrap64 (a0_1 + a1_1)) - t324)), .int .i64 0, .int .i64 0, .string (⟨#[]⟩ : ByteArray), .string (⟨#[]⟩ : ByteArray)]) ?_ 2 _ rfl; refine pl ?_; refine blk_put (cs := #[.int .i64 (wrap64 (a0_0 + a1_0)), .int .i64 0, .int .i64 0, .int .i64 0, .string (⟨#[]⟩ : ByteArray), .string (⟨#[]⟩ : ByteArray)]) ?_ 1 _ rfl; refine pl ?_; refine blk_put (cs := #[.int .i64 0, .int .i64 0, .int .i64 0, .int .i64 0, .string (⟨#[]⟩ : ByteArray), .string (⟨#[]⟩ : ByteArray)]) ?_ 0 _ rfl; refine pl ?_; exact BK320.out) Tryd.underlying26 rfl (by kernel_rfl)) rfl ?_
          exact ⟨by first | rfl | (simp [errW_none, errW_some] <;> rfl) | (simp [*, errW_none, errW_some] <;> rfl), by repeat (first | (with_reducible first | exact HB.out | apply below_alloc | apply pw_below_drewN | apply below_drew1 | refine below_set ?_ GE318.out | refine below_set ?_ GE319.out | refine below_set ?_ GE320.out | refine below_set ?_ GE327.out | refine below_set ?_ GE328.out) | exact HB.out)⟩
         ·replace c74 := Bool.eq_false_iff.mpr c74
          subst c74
          have H1 : (some (0, 0, 0, 0, (⟨#[]⟩ : ByteArray), (⟨#[]⟩ : ByteArray), 50)) = some (r1, r2, r3, r4, r5, r6, r7) := by rw [if_neg (show ¬ (false = true) by decide)] at H; exact H
          clear H; have H := H1; clear H1
          simp only [Option.some.injEq, Prod.mk.injEq] at H
          obtain ⟨rfl, rfl, rfl, rfl, rfl, rfl, rfl⟩ := H
          have hnb95 := NB319_318.out; have hnc95 := NB318_319.out; have hnb96 := NB319_320.out; have hnc96 := NB320_319.out; have hnb97 := NB319_327.out; have hnc97 := NB327_319.out; have hnb98 := NB319_328.out; have hnc98 := NB328_319.out; obtain ⟨hcz99_0, hcz99_1, hcz99_2, hcz99_3, hcz99_4, hcz99_5⟩ := c6 BK319.out; obtain ⟨hfz99_0, hfz99_1, hfz99_2, hfz99_3, hfz99_4, hfz99_5⟩ := f6 BK319.out; have hnb100 := NB318_320.out; have hnc100 := NB320_318.out; have hnb101 := NB318_327.out; have hnc101 := NB327_318.out; have hnb102 := NB318_328.out; have hnc102 := NB328_318.out; obtain ⟨hcz103_0, hcz103_1, hcz103_2, hcz103_3, hcz103_4, hcz103_5⟩ := c6 BK318.out; obtain ⟨hfz103_0, hfz103_1, hfz103_2, hfz103_3, hfz103_4, hfz103_5⟩ := f6 BK318.out
          go_wp2_with (first | ((with_reducible refine gate_callee (f := 28) rfl ?_); refine goesL_ (some 54) rfl rfl Tryd.func28 (by kernel_rfl) rfl #[.string (a0_5 ++ a1_5)] rfl (by (try simp only [List.map_toArray, List.map_cons, List.map_nil]); first | done | rfl | (simp only [List.length_drop, List.length_take]; rfl)) ?_; (with_reducible refine (galleyref05_tail.calls (a0_5 ++ a1_5) t330 _ A72.out).mono ?_); rintro e w104 ⟨rfl, hb⟩; refine ⟨_, rfl, ?_⟩; have n0_ := Aside0.mk (blk_below (pl BK318.out) hb); have n1_ := Aside0.mk (blk_below (pl BK319.out) hb); have n2_ := Aside0.mk (blk_below (pl BK320.out) hb); have n3_ := Aside0.mk (blk_below (pl BK327.out) hb); have n4_ := Aside0.mk (blk_below (pl BK328.out) hb); have n5_ := Aside0.mk (below_step (by repeat (first | (with_reducible first | exact HB.out | apply below_alloc | apply pw_below_drewN | apply below_drew1 | refine below_set ?_ GE318.out | refine below_set ?_ GE319.out | refine below_set ?_ GE320.out | refine below_set ?_ GE327.out | refine below_set ?_ GE328.out) | exact HB.out)) hb); clear BK318; clear BK319; clear BK320; clear BK327; clear BK328; clear HB; have BK318 := n0_; have BK319 := n1_; have BK320 := n2_; have BK327 := n3_; have BK328 := n4_; have HB := n5_; clear n0_ n1_ n2_ n3_ n4_ n5_; (try clear hb); (try clear hb2); (try clear hk); (try clear hi); have hnb105 := NB328_320.out; have hnc105 := NB320_328.out; have hnb106 := NB328_327.out; have hnc106 := NB327_328.out; obtain ⟨hcz107_0, hcz107_1, hcz107_2, hcz107_3, hcz107_4, hcz107_5⟩ := c6 BK328.out; obtain ⟨hfz107_0, hfz107_1, hfz107_2, hfz107_3, hfz107_4, hfz107_5⟩ := f6 BK328.out; obtain ⟨hcz108_0, hcz108_1, hcz108_2, hcz108_3, hcz108_4, hcz108_5⟩ := c6 BK318.out; obtain ⟨hfz108_0, hfz108_1, hfz108_2, hfz108_3, hfz108_4, hfz108_5⟩ := f6 BK318.out; obtain ⟨hcz109_0, hcz109_1, hcz109_2, hcz109_3, hcz109_4, hcz109_5⟩ := c6 BK319.out; obtain ⟨hfz109_0, hfz109_1, hfz109_2, hfz109_3, hfz109_4, hfz109_5⟩ := f6 BK319.out; have hnb110 := NB327_320.out; have hnc110 := NB320_327.out; obtain ⟨hcz111_0, hcz111_1, hcz111_2, hcz111_3⟩ := c4 BK327.out; obtain ⟨hfz111_0, hfz111_1, hfz111_2, hfz111_3⟩ := f4 BK327.out) | ((with_reducible refine gate_callee (f := 16) rfl ?_); refine goesL_ (some 102) rfl rfl Tryd.func16 (by kernel_rfl) rfl #[.agg #[.int .i64 (wrap64 (a0_0 + a1_0)), .int .i64 (wrap64 ((wrap64 (a0_1 + a1_1)) - t324)), .int .i64 (wrap64 ((wrap64 (a0_2 + a1_2)) - t325)), .int .i64 (wrap64 ((wrap64 (a0_3 + a1_3)) - t326)), .string x329004_32, .string t330]] rfl (by (try simp only [List.map_toArray, List.map_cons, List.map_nil]); first | done | rfl | (simp only [List.length_drop, List.length_take]; rfl)) ?_; (with_reducible refine (galleyref05_Valid.calls kj32 (wrap64 (a0_0 + a1_0)) (wrap64 ((wrap64 (a0_1 + a1_1)) - t324)) (wrap64 ((wrap64 (a0_2 + a1_2)) - t325)) (wrap64 ((wrap64 (a0_3 + a1_3)) - t326)) x329004_32 t330 false _ A73.out).mono ?_); rintro e w112 ⟨rfl, hb⟩; refine ⟨_, rfl, ?_⟩; have n0_ := Aside0.mk (blk_below (g := gb318) (o := .cells #[.int .i64 a0_0, .int .i64 a0_1, .int .i64 a0_2, .int .i64 a0_3, .string a0_4, .string a0_5] 26 (0, 0)) (by refine pl ?_; refine blk_far ?_ NB318_328.out _; refine pl ?_; refine blk_far ?_ NB318_328.out _; refine pl ?_; refine blk_far ?_ NB318_328.out _; refine pl ?_; refine blk_far ?_ NB318_328.out _; refine pl ?_; refine blk_far ?_ NB318_328.out _; refine pl ?_; exact BK318.out) hb); have n1_ := Aside0.mk (blk_below (g := gb319) (o := .cells #[.int .i64 a1_0, .int .i64 a1_1, .int .i64 a1_2, .int .i64 a1_3, .string a1_4, .string a1_5] 26 (0, 0)) (by refine pl ?_; refine blk_far ?_ NB319_328.out _; refine pl ?_; refine blk_far ?_ NB319_328.out _; refine pl ?_; refine blk_far ?_ NB319_328.out _; refine pl ?_; refine blk_far ?_ NB319_328.out _; refine pl ?_; refine blk_far ?_ NB319_328.out _; refine pl ?_; exact BK319.out) hb); have n2_ := Aside0.mk (blk_below (g := gb320) (o := .cells #[.int .i64 0, .int .i64 0, .int .i64 0, .int .i64 0, .string (⟨#[]⟩ : ByteArray), .string (⟨#[]⟩ : ByteArray)] 26 (0, 0)) (by refine pl ?_; refine blk_far ?_ NB320_328.out _; refine pl ?_; refine blk_far ?_ NB320_328.out _; refine pl ?_; refine blk_far ?_ NB320_328.out _; refine pl ?_; refine blk_far ?_ NB320_328.out _; refine pl ?_; refine blk_far ?_ NB320_328.out _; refine pl ?_; exact BK320.out) hb); have n3_ := Aside0.mk (blk_below (g := gb327) (o := .cells #[.int .i64 t323, .int .i64 t324, .int .i64 t325, .int .i64 t326] 24 (0, 0)) (by refine pl ?_; refine blk_far ?_ NB327_328.out _; refine pl ?_; refine blk_far ?_ NB327_328.out _; refine pl ?_; refine blk_far ?_ NB327_328.out _; refine pl ?_; refine blk_far ?_ NB327_328.out _; refine pl ?_; refine blk_far ?_ NB327_328.out _; refine pl ?_; exact BK327.out) hb); have n4_ := Aside0.mk (blk_below (g := gb328) (o := .cells #[.int .i64 (wrap64 (a0_0 + a1_0)), .int .i64 (wrap64 ((wrap64 (a0_1 + a1_1)) - t324)), .int .i64 (wrap64 ((wrap64 (a0_2 + a1_2)) - t325)), .int .i64 (wrap64 ((wrap64 (a0_3 + a1_3)) - t326)), .string x329004_32, .string t330] 26 (0, 0)) (by refine pl ?_; refine blk_put (cs := #[.int .i64 (wrap64 (a0_0 + a1_0)), .int .i64 (wrap64 ((wrap64 (a0_1 + a1_1)) - t324)), .int .i64 (wrap64 ((wrap64 (a0_2 + a1_2)) - t325)), .int .i64 0, .string x329004_32, .string t330]) ?_ 3 _ rfl; refine pl ?_; refine blk_put (cs := #[.int .i64 (wrap64 (a0_0 + a1_0)), .int .i64 (wrap64 ((wrap64 (a0_1 + a1_1)) - t324)), .int .i64 0, .int .i64 0, .string x329004_32, .string t330]) ?_ 2 _ rfl; refine pl ?_; refine blk_put (cs := #[.int .i64 (wrap64 (a0_0 + a1_0)), .int .i64 0, .int .i64 0, .int .i64 0, .string x329004_32, .string t330]) ?_ 1 _ rfl; refine pl ?_; refine blk_put (cs := #[.int .i64 0, .int .i64 0, .int .i64 0, .int .i64 0, .string x329004_32, .string t330]) ?_ 0 _ rfl; refine pl ?_; refine blk_put (cs := #[.int .i64 0, .int .i64 0, .int .i64 0, .int .i64 0, .string x329004_32, .string a1_5]) ?_ 5 _ rfl; refine pl ?_; exact BK328.out) hb); have n5_ := Aside0.mk (below_step (by repeat (first | (with_reducible first | exact HB.out | apply below_alloc | apply pw_below_drewN | apply below_drew1 | refine below_set ?_ GE318.out | refine below_set ?_ GE319.out | refine below_set ?_ GE320.out | refine below_set ?_ GE327.out | refine below_set ?_ GE328.out) | exact HB.out)) hb); clear BK318; clear BK319; clear BK320; clear BK327; clear BK328; clear HB; have BK318 := n0_; have BK319 := n1_; have BK320 := n2_; have BK327 := n3_; have BK328 := n4_; have HB := n5_; clear n0_ n1_ n2_ n3_ n4_ n5_; (try clear hb); (try clear hb2); (try clear hk); (try clear hi); obtain ⟨hcz113_0, hcz113_1, hcz113_2, hcz113_3, hcz113_4, hcz113_5⟩ := c6 BK320.out; obtain ⟨hfz113_0, hfz113_1, hfz113_2, hfz113_3, hfz113_4, hfz113_5⟩ := f6 BK320.out))
          refine bodyPost_ret (results_ct rfl _ _ gb320 26 #[.int .i64 0, .int .i64 0, .int .i64 0, .int .i64 0, .string (⟨#[]⟩ : ByteArray), .string (⟨#[]⟩ : ByteArray)] (0, 0) _ rfl (by refine pl ?_; refine blk_put (cs := #[.int .i64 0, .int .i64 0, .int .i64 0, .int .i64 0, .string (⟨#[]⟩ : ByteArray), .string (⟨#[]⟩ : ByteArray)]) ?_ 5 _ rfl; refine pl ?_; refine blk_put (cs := #[.int .i64 0, .int .i64 0, .int .i64 0, .int .i64 0, .string (⟨#[]⟩ : ByteArray), .string (⟨#[]⟩ : ByteArray)]) ?_ 4 _ rfl; refine pl ?_; refine blk_put (cs := #[.int .i64 0, .int .i64 0, .int .i64 0, .int .i64 0, .string (⟨#[]⟩ : ByteArray), .string (⟨#[]⟩ : ByteArray)]) ?_ 3 _ rfl; refine pl ?_; refine blk_put (cs := #[.int .i64 0, .int .i64 0, .int .i64 0, .int .i64 0, .string (⟨#[]⟩ : ByteArray), .string (⟨#[]⟩ : ByteArray)]) ?_ 2 _ rfl; refine pl ?_; refine blk_put (cs := #[.int .i64 0, .int .i64 0, .int .i64 0, .int .i64 0, .string (⟨#[]⟩ : ByteArray), .string (⟨#[]⟩ : ByteArray)]) ?_ 1 _ rfl; refine pl ?_; refine blk_put (cs := #[.int .i64 0, .int .i64 0, .int .i64 0, .int .i64 0, .string (⟨#[]⟩ : ByteArray), .string (⟨#[]⟩ : ByteArray)]) ?_ 0 _ rfl; refine pl ?_; exact BK320.out) Tryd.underlying26 rfl (by kernel_rfl)) rfl ?_
          exact ⟨by first | rfl | (simp [errW_none, errW_some] <;> rfl) | (simp [*, errW_none, errW_some] <;> rfl), by repeat (first | (with_reducible first | exact HB.out | apply below_alloc | apply pw_below_drewN | apply below_drew1 | refine below_set ?_ GE318.out | refine below_set ?_ GE319.out | refine below_set ?_ GE320.out | refine below_set ?_ GE327.out | refine below_set ?_ GE328.out) | exact HB.out)⟩
        ·rw [if_neg c71] at H
         exact absurd H (by simp)
       ·rw [if_neg c70] at H
        have c70b0 : decide ((a1_5.size : Int) < 3) = false := decide_eq_false c70
        have c70b1 : decide (a1_5.size < 3) = false := decide_eq_false (by omega)
        clear c70
        replace H := Option.bind_eq_some_iff.mp H
        obtain ⟨t332, A1140, H⟩ := H
        replace H : (if t332 = true then (some (wrap64 (a0_0 + a1_0), wrap64 ((wrap64 (a0_1 + a1_1)) - t324), wrap64 ((wrap64 (a0_2 + a1_2)) - t325), wrap64 ((wrap64 (a0_3 + a1_3)) - t326), x329004_32, a1_5, 0)) else (some (0, 0, 0, 0, (⟨#[]⟩ : ByteArray), (⟨#[]⟩ : ByteArray), 50))) = some (r1, r2, r3, r4, r5, r6, r7) := H
        have A114 := Aside0.mk A1140; clear A1140
        by_cases c115 : t332 = true
        ·subst c115
         have H1 : (some (wrap64 (a0_0 + a1_0), wrap64 ((wrap64 (a0_1 + a1_1)) - t324), wrap64 ((wrap64 (a0_2 + a1_2)) - t325), wrap64 ((wrap64 (a0_3 + a1_3)) - t326), x329004_32, a1_5, 0)) = some (r1, r2, r3, r4, r5, r6, r7) := by rw [if_pos rfl] at H; exact H
         clear H; have H := H1; clear H1
         simp only [Option.some.injEq, Prod.mk.injEq] at H
         obtain ⟨rfl, rfl, rfl, rfl, rfl, rfl, rfl⟩ := H
         have hnb116 := NB319_318.out; have hnc116 := NB318_319.out; have hnb117 := NB319_320.out; have hnc117 := NB320_319.out; have hnb118 := NB319_327.out; have hnc118 := NB327_319.out; have hnb119 := NB319_328.out; have hnc119 := NB328_319.out; obtain ⟨hcz120_0, hcz120_1, hcz120_2, hcz120_3, hcz120_4, hcz120_5⟩ := c6 BK319.out; obtain ⟨hfz120_0, hfz120_1, hfz120_2, hfz120_3, hfz120_4, hfz120_5⟩ := f6 BK319.out; have hnb121 := NB318_320.out; have hnc121 := NB320_318.out; have hnb122 := NB318_327.out; have hnc122 := NB327_318.out; have hnb123 := NB318_328.out; have hnc123 := NB328_318.out; obtain ⟨hcz124_0, hcz124_1, hcz124_2, hcz124_3, hcz124_4, hcz124_5⟩ := c6 BK318.out; obtain ⟨hfz124_0, hfz124_1, hfz124_2, hfz124_3, hfz124_4, hfz124_5⟩ := f6 BK318.out; have hnb125 := NB328_320.out; have hnc125 := NB320_328.out; have hnb126 := NB328_327.out; have hnc126 := NB327_328.out; obtain ⟨hcz127_0, hcz127_1, hcz127_2, hcz127_3, hcz127_4, hcz127_5⟩ := c6 BK328.out; obtain ⟨hfz127_0, hfz127_1, hfz127_2, hfz127_3, hfz127_4, hfz127_5⟩ := f6 BK328.out; have hnb128 := NB327_320.out; have hnc128 := NB320_327.out; obtain ⟨hcz129_0, hcz129_1, hcz129_2, hcz129_3⟩ := c4 BK327.out; obtain ⟨hfz129_0, hfz129_1, hfz129_2, hfz129_3⟩ := f4 BK327.out
         go_wp2_with (first | ((with_reducible refine gate_callee (f := 16) rfl ?_); refine goesL_ (some 102) rfl rfl Tryd.func16 (by kernel_rfl) rfl #[.agg #[.int .i64 (wrap64 (a0_0 + a1_0)), .int .i64 (wrap64 ((wrap64 (a0_1 + a1_1)) - t324)), .int .i64 (wrap64 ((wrap64 (a0_2 + a1_2)) - t325)), .int .i64 (wrap64 ((wrap64 (a0_3 + a1_3)) - t326)), .string x329004_32, .string a1_5]] rfl (by (try simp only [List.map_toArray, List.map_cons, List.map_nil]); first | done | rfl | (simp only [List.length_drop, List.length_take]; rfl)) ?_; (with_reducible refine (galleyref05_Valid.calls kj32 (wrap64 (a0_0 + a1_0)) (wrap64 ((wrap64 (a0_1 + a1_1)) - t324)) (wrap64 ((wrap64 (a0_2 + a1_2)) - t325)) (wrap64 ((wrap64 (a0_3 + a1_3)) - t326)) x329004_32 a1_5 true _ A114.out).mono ?_); rintro e w130 ⟨rfl, hb⟩; refine ⟨_, rfl, ?_⟩; have n0_ := Aside0.mk (blk_below (g := gb318) (o := .cells #[.int .i64 a0_0, .int .i64 a0_1, .int .i64 a0_2, .int .i64 a0_3, .string a0_4, .string a0_5] 26 (0, 0)) (by refine pl ?_; refine blk_far ?_ NB318_328.out _; refine pl ?_; refine blk_far ?_ NB318_328.out _; refine pl ?_; refine blk_far ?_ NB318_328.out _; refine pl ?_; refine blk_far ?_ NB318_328.out _; refine pl ?_; exact BK318.out) hb); have n1_ := Aside0.mk (blk_below (g := gb319) (o := .cells #[.int .i64 a1_0, .int .i64 a1_1, .int .i64 a1_2, .int .i64 a1_3, .string a1_4, .string a1_5] 26 (0, 0)) (by refine pl ?_; refine blk_far ?_ NB319_328.out _; refine pl ?_; refine blk_far ?_ NB319_328.out _; refine pl ?_; refine blk_far ?_ NB319_328.out _; refine pl ?_; refine blk_far ?_ NB319_328.out _; refine pl ?_; exact BK319.out) hb); have n2_ := Aside0.mk (blk_below (g := gb320) (o := .cells #[.int .i64 0, .int .i64 0, .int .i64 0, .int .i64 0, .string (⟨#[]⟩ : ByteArray), .string (⟨#[]⟩ : ByteArray)] 26 (0, 0)) (by refine pl ?_; refine blk_far ?_ NB320_328.out _; refine pl ?_; refine blk_far ?_ NB320_328.out _; refine pl ?_; refine blk_far ?_ NB320_328.out _; refine pl ?_; refine blk_far ?_ NB320_328.out _; refine pl ?_; exact BK320.out) hb); have n3_ := Aside0.mk (blk_below (g := gb327) (o := .cells #[.int .i64 t323, .int .i64 t324, .int .i64 t325, .int .i64 t326] 24 (0, 0)) (by refine pl ?_; refine blk_far ?_ NB327_328.out _; refine pl ?_; refine blk_far ?_ NB327_328.out _; refine pl ?_; refine blk_far ?_ NB327_328.out _; refine pl ?_; refine blk_far ?_ NB327_328.out _; refine pl ?_; exact BK327.out) hb); have n4_ := Aside0.mk (blk_below (g := gb328) (o := .cells #[.int .i64 (wrap64 (a0_0 + a1_0)), .int .i64 (wrap64 ((wrap64 (a0_1 + a1_1)) - t324)), .int .i64 (wrap64 ((wrap64 (a0_2 + a1_2)) - t325)), .int .i64 (wrap64 ((wrap64 (a0_3 + a1_3)) - t326)), .string x329004_32, .string a1_5] 26 (0, 0)) (by refine pl ?_; refine blk_put (cs := #[.int .i64 (wrap64 (a0_0 + a1_0)), .int .i64 (wrap64 ((wrap64 (a0_1 + a1_1)) - t324)), .int .i64 (wrap64 ((wrap64 (a0_2 + a1_2)) - t325)), .int .i64 0, .string x329004_32, .string a1_5]) ?_ 3 _ rfl; refine pl ?_; refine blk_put (cs := #[.int .i64 (wrap64 (a0_0 + a1_0)), .int .i64 (wrap64 ((wrap64 (a0_1 + a1_1)) - t324)), .int .i64 0, .int .i64 0, .string x329004_32, .string a1_5]) ?_ 2 _ rfl; refine pl ?_; refine blk_put (cs := #[.int .i64 (wrap64 (a0_0 + a1_0)), .int .i64 0, .int .i64 0, .int .i64 0, .string x329004_32, .string a1_5]) ?_ 1 _ rfl; refine pl ?_; refine blk_put (cs := #[.int .i64 0, .int .i64 0, .int .i64 0, .int .i64 0, .string x329004_32, .string a1_5]) ?_ 0 _ rfl; refine pl ?_; exact BK328.out) hb); have n5_ := Aside0.mk (below_step (by repeat (first | (with_reducible first | exact HB.out | apply below_alloc | apply pw_below_drewN | apply below_drew1 | refine below_set ?_ GE318.out | refine below_set ?_ GE319.out | refine below_set ?_ GE320.out | refine below_set ?_ GE327.out | refine below_set ?_ GE328.out) | exact HB.out)) hb); clear BK318; clear BK319; clear BK320; clear BK327; clear BK328; clear HB; have BK318 := n0_; have BK319 := n1_; have BK320 := n2_; have BK327 := n3_; have BK328 := n4_; have HB := n5_; clear n0_ n1_ n2_ n3_ n4_ n5_; (try clear hb); (try clear hb2); (try clear hk); (try clear hi); obtain ⟨hcz131_0, hcz131_1, hcz131_2, hcz131_3, hcz131_4, hcz131_5⟩ := c6 BK328.out; obtain ⟨hfz131_0, hfz131_1, hfz131_2, hfz131_3, hfz131_4, hfz131_5⟩ := f6 BK328.out; obtain ⟨hcz132_0, hcz132_1, hcz132_2, hcz132_3, hcz132_4, hcz132_5⟩ := c6 BK320.out; obtain ⟨hfz132_0, hfz132_1, hfz132_2, hfz132_3, hfz132_4, hfz132_5⟩ := f6 BK320.out))
         refine bodyPost_ret (results_ct rfl _ _ gb320 26 #[.int .i64 (wrap64 (a0_0 + a1_0)), .int .i64 (wrap64 ((wrap64 (a0_1 + a1_1)) - t324)), .int .i64 (wrap64 ((wrap64 (a0_2 + a1_2)) - t325)), .int .i64 (wrap64 ((wrap64 (a0_3 + a1_3)) - t326)), .string x329004_32, .string a1_5] (0, 0) _ rfl (by refine pl ?_; refine blk_put (cs := #[.int .i64 (wrap64 (a0_0 + a1_0)), .int .i64 (wrap64 ((wrap64 (a0_1 + a1_1)) - t324)), .int .i64 (wrap64 ((wrap64 (a0_2 + a1_2)) - t325)), .int .i64 (wrap64 ((wrap64 (a0_3 + a1_3)) - t326)), .string x329004_32, .string (⟨#[]⟩ : ByteArray)]) ?_ 5 _ rfl; refine pl ?_; refine blk_put (cs := #[.int .i64 (wrap64 (a0_0 + a1_0)), .int .i64 (wrap64 ((wrap64 (a0_1 + a1_1)) - t324)), .int .i64 (wrap64 ((wrap64 (a0_2 + a1_2)) - t325)), .int .i64 (wrap64 ((wrap64 (a0_3 + a1_3)) - t326)), .string (⟨#[]⟩ : ByteArray), .string (⟨#[]⟩ : ByteArray)]) ?_ 4 _ rfl; refine pl ?_; refine blk_put (cs := #[.int .i64 (wrap64 (a0_0 + a1_0)), .int .i64 (wrap64 ((wrap64 (a0_1 + a1_1)) - t324)), .int .i64 (wrap64 ((wrap64 (a0_2 + a1_2)) - t325)), .int .i64 0, .string (⟨#[]⟩ : ByteArray), .string (⟨#[]⟩ : ByteArray)]) ?_ 3 _ rfl; refine pl ?_; refine blk_put (cs := #[.int .i64 (wrap64 (a0_0 + a1_0)), .int .i64 (wrap64 ((wrap64 (a0_1 + a1_1)) - t324)), .int .i64 0, .int .i64 0, .string (⟨#[]⟩ : ByteArray), .string (⟨#[]⟩ : ByteArray)]) ?_ 2 _ rfl; refine pl ?_; refine blk_put (cs := #[.int .i64 (wrap64 (a0_0 + a1_0)), .int .i64 0, .int .i64 0, .int .i64 0, .string (⟨#[]⟩ : ByteArray), .string (⟨#[]⟩ : ByteArray)]) ?_ 1 _ rfl; refine pl ?_; refine blk_put (cs := #[.int .i64 0, .int .i64 0, .int .i64 0, .int .i64 0, .string (⟨#[]⟩ : ByteArray), .string (⟨#[]⟩ : ByteArray)]) ?_ 0 _ rfl; refine pl ?_; exact BK320.out) Tryd.underlying26 rfl (by kernel_rfl)) rfl ?_
         exact ⟨by first | rfl | (simp [errW_none, errW_some] <;> rfl) | (simp [*, errW_none, errW_some] <;> rfl), by repeat (first | (with_reducible first | exact HB.out | apply below_alloc | apply pw_below_drewN | apply below_drew1 | refine below_set ?_ GE318.out | refine below_set ?_ GE319.out | refine below_set ?_ GE320.out | refine below_set ?_ GE327.out | refine below_set ?_ GE328.out) | exact HB.out)⟩
        ·replace c115 := Bool.eq_false_iff.mpr c115
         subst c115
         have H1 : (some (0, 0, 0, 0, (⟨#[]⟩ : ByteArray), (⟨#[]⟩ : ByteArray), 50)) = some (r1, r2, r3, r4, r5, r6, r7) := by rw [if_neg (show ¬ (false = true) by decide)] at H; exact H
         clear H; have H := H1; clear H1
         simp only [Option.some.injEq, Prod.mk.injEq] at H
         obtain ⟨rfl, rfl, rfl, rfl, rfl, rfl, rfl⟩ := H
         have hnb133 := NB319_318.out; have hnc133 := NB318_319.out; have hnb134 := NB319_320.out; have hnc134 := NB320_319.out; have hnb135 := NB319_327.out; have hnc135 := NB327_319.out; have hnb136 := NB319_328.out; have hnc136 := NB328_319.out; obtain ⟨hcz137_0, hcz137_1, hcz137_2, hcz137_3, hcz137_4, hcz137_5⟩ := c6 BK319.out; obtain ⟨hfz137_0, hfz137_1, hfz137_2, hfz137_3, hfz137_4, hfz137_5⟩ := f6 BK319.out; have hnb138 := NB318_320.out; have hnc138 := NB320_318.out; have hnb139 := NB318_327.out; have hnc139 := NB327_318.out; have hnb140 := NB318_328.out; have hnc140 := NB328_318.out; obtain ⟨hcz141_0, hcz141_1, hcz141_2, hcz141_3, hcz141_4, hcz141_5⟩ := c6 BK318.out; obtain ⟨hfz141_0, hfz141_1, hfz141_2, hfz141_3, hfz141_4, hfz141_5⟩ := f6 BK318.out; have hnb142 := NB328_320.out; have hnc142 := NB320_328.out; have hnb143 := NB328_327.out; have hnc143 := NB327_328.out; obtain ⟨hcz144_0, hcz144_1, hcz144_2, hcz144_3, hcz144_4, hcz144_5⟩ := c6 BK328.out; obtain ⟨hfz144_0, hfz144_1, hfz144_2, hfz144_3, hfz144_4, hfz144_5⟩ := f6 BK328.out; have hnb145 := NB327_320.out; have hnc145 := NB320_327.out; obtain ⟨hcz146_0, hcz146_1, hcz146_2, hcz146_3⟩ := c4 BK327.out; obtain ⟨hfz146_0, hfz146_1, hfz146_2, hfz146_3⟩ := f4 BK327.out
         go_wp2_with (first | ((with_reducible refine gate_callee (f := 16) rfl ?_); refine goesL_ (some 102) rfl rfl Tryd.func16 (by kernel_rfl) rfl #[.agg #[.int .i64 (wrap64 (a0_0 + a1_0)), .int .i64 (wrap64 ((wrap64 (a0_1 + a1_1)) - t324)), .int .i64 (wrap64 ((wrap64 (a0_2 + a1_2)) - t325)), .int .i64 (wrap64 ((wrap64 (a0_3 + a1_3)) - t326)), .string x329004_32, .string a1_5]] rfl (by (try simp only [List.map_toArray, List.map_cons, List.map_nil]); first | done | rfl | (simp only [List.length_drop, List.length_take]; rfl)) ?_; (with_reducible refine (galleyref05_Valid.calls kj32 (wrap64 (a0_0 + a1_0)) (wrap64 ((wrap64 (a0_1 + a1_1)) - t324)) (wrap64 ((wrap64 (a0_2 + a1_2)) - t325)) (wrap64 ((wrap64 (a0_3 + a1_3)) - t326)) x329004_32 a1_5 false _ A114.out).mono ?_); rintro e w147 ⟨rfl, hb⟩; refine ⟨_, rfl, ?_⟩; have n0_ := Aside0.mk (blk_below (g := gb318) (o := .cells #[.int .i64 a0_0, .int .i64 a0_1, .int .i64 a0_2, .int .i64 a0_3, .string a0_4, .string a0_5] 26 (0, 0)) (by refine pl ?_; refine blk_far ?_ NB318_328.out _; refine pl ?_; refine blk_far ?_ NB318_328.out _; refine pl ?_; refine blk_far ?_ NB318_328.out _; refine pl ?_; refine blk_far ?_ NB318_328.out _; refine pl ?_; exact BK318.out) hb); have n1_ := Aside0.mk (blk_below (g := gb319) (o := .cells #[.int .i64 a1_0, .int .i64 a1_1, .int .i64 a1_2, .int .i64 a1_3, .string a1_4, .string a1_5] 26 (0, 0)) (by refine pl ?_; refine blk_far ?_ NB319_328.out _; refine pl ?_; refine blk_far ?_ NB319_328.out _; refine pl ?_; refine blk_far ?_ NB319_328.out _; refine pl ?_; refine blk_far ?_ NB319_328.out _; refine pl ?_; exact BK319.out) hb); have n2_ := Aside0.mk (blk_below (g := gb320) (o := .cells #[.int .i64 0, .int .i64 0, .int .i64 0, .int .i64 0, .string (⟨#[]⟩ : ByteArray), .string (⟨#[]⟩ : ByteArray)] 26 (0, 0)) (by refine pl ?_; refine blk_far ?_ NB320_328.out _; refine pl ?_; refine blk_far ?_ NB320_328.out _; refine pl ?_; refine blk_far ?_ NB320_328.out _; refine pl ?_; refine blk_far ?_ NB320_328.out _; refine pl ?_; exact BK320.out) hb); have n3_ := Aside0.mk (blk_below (g := gb327) (o := .cells #[.int .i64 t323, .int .i64 t324, .int .i64 t325, .int .i64 t326] 24 (0, 0)) (by refine pl ?_; refine blk_far ?_ NB327_328.out _; refine pl ?_; refine blk_far ?_ NB327_328.out _; refine pl ?_; refine blk_far ?_ NB327_328.out _; refine pl ?_; refine blk_far ?_ NB327_328.out _; refine pl ?_; exact BK327.out) hb); have n4_ := Aside0.mk (blk_below (g := gb328) (o := .cells #[.int .i64 (wrap64 (a0_0 + a1_0)), .int .i64 (wrap64 ((wrap64 (a0_1 + a1_1)) - t324)), .int .i64 (wrap64 ((wrap64 (a0_2 + a1_2)) - t325)), .int .i64 (wrap64 ((wrap64 (a0_3 + a1_3)) - t326)), .string x329004_32, .string a1_5] 26 (0, 0)) (by refine pl ?_; refine blk_put (cs := #[.int .i64 (wrap64 (a0_0 + a1_0)), .int .i64 (wrap64 ((wrap64 (a0_1 + a1_1)) - t324)), .int .i64 (wrap64 ((wrap64 (a0_2 + a1_2)) - t325)), .int .i64 0, .string x329004_32, .string a1_5]) ?_ 3 _ rfl; refine pl ?_; refine blk_put (cs := #[.int .i64 (wrap64 (a0_0 + a1_0)), .int .i64 (wrap64 ((wrap64 (a0_1 + a1_1)) - t324)), .int .i64 0, .int .i64 0, .string x329004_32, .string a1_5]) ?_ 2 _ rfl; refine pl ?_; refine blk_put (cs := #[.int .i64 (wrap64 (a0_0 + a1_0)), .int .i64 0, .int .i64 0, .int .i64 0, .string x329004_32, .string a1_5]) ?_ 1 _ rfl; refine pl ?_; refine blk_put (cs := #[.int .i64 0, .int .i64 0, .int .i64 0, .int .i64 0, .string x329004_32, .string a1_5]) ?_ 0 _ rfl; refine pl ?_; exact BK328.out) hb); have n5_ := Aside0.mk (below_step (by repeat (first | (with_reducible first | exact HB.out | apply below_alloc | apply pw_below_drewN | apply below_drew1 | refine below_set ?_ GE318.out | refine below_set ?_ GE319.out | refine below_set ?_ GE320.out | refine below_set ?_ GE327.out | refine below_set ?_ GE328.out) | exact HB.out)) hb); clear BK318; clear BK319; clear BK320; clear BK327; clear BK328; clear HB; have BK318 := n0_; have BK319 := n1_; have BK320 := n2_; have BK327 := n3_; have BK328 := n4_; have HB := n5_; clear n0_ n1_ n2_ n3_ n4_ n5_; (try clear hb); (try clear hb2); (try clear hk); (try clear hi); obtain ⟨hcz148_0, hcz148_1, hcz148_2, hcz148_3, hcz148_4, hcz148_5⟩ := c6 BK320.out; obtain ⟨hfz148_0, hfz148_1, hfz148_2, hfz148_3, hfz148_4, hfz148_5⟩ := f6 BK320.out))
         refine bodyPost_ret (results_ct rfl _ _ gb320 26 #[.int .i64 0, .int .i64 0, .int .i64 0, .int .i64 0, .string (⟨#[]⟩ : ByteArray), .string (⟨#[]⟩ : ByteArray)] (0, 0) _ rfl (by refine pl ?_; refine blk_put (cs := #[.int .i64 0, .int .i64 0, .int .i64 0, .int .i64 0, .string (⟨#[]⟩ : ByteArray), .string (⟨#[]⟩ : ByteArray)]) ?_ 5 _ rfl; refine pl ?_; refine blk_put (cs := #[.int .i64 0, .int .i64 0, .int .i64 0, .int .i64 0, .string (⟨#[]⟩ : ByteArray), .string (⟨#[]⟩ : ByteArray)]) ?_ 4 _ rfl; refine pl ?_; refine blk_put (cs := #[.int .i64 0, .int .i64 0, .int .i64 0, .int .i64 0, .string (⟨#[]⟩ : ByteArray), .string (⟨#[]⟩ : ByteArray)]) ?_ 3 _ rfl; refine pl ?_; refine blk_put (cs := #[.int .i64 0, .int .i64 0, .int .i64 0, .int .i64 0, .string (⟨#[]⟩ : ByteArray), .string (⟨#[]⟩ : ByteArray)]) ?_ 2 _ rfl; refine pl ?_; refine blk_put (cs := #[.int .i64 0, .int .i64 0, .int .i64 0, .int .i64 0, .string (⟨#[]⟩ : ByteArray), .string (⟨#[]⟩ : ByteArray)]) ?_ 1 _ rfl; refine pl ?_; refine blk_put (cs := #[.int .i64 0, .int .i64 0, .int .i64 0, .int .i64 0, .string (⟨#[]⟩ : ByteArray), .string (⟨#[]⟩ : ByteArray)]) ?_ 0 _ rfl; refine pl ?_; exact BK320.out) Tryd.underlying26 rfl (by kernel_rfl)) rfl ?_
         exact ⟨by first | rfl | (simp [errW_none, errW_some] <;> rfl) | (simp [*, errW_none, errW_some] <;> rfl), by repeat (first | (with_reducible first | exact HB.out | apply below_alloc | apply pw_below_drewN | apply below_drew1 | refine below_set ?_ GE318.out | refine below_set ?_ GE319.out | refine below_set ?_ GE320.out | refine below_set ?_ GE327.out | refine below_set ?_ GE328.out) | exact HB.out)⟩
end Go.Proofs.YtaojbcplmdjfnaaDoor.Pr

namespace Go.Proofs.YtaojbcplmdjfnaaDoor.Pr
open Go.RowKit Go.Proofs.YtaojbcplmdjfnaaDoorW.PrintWords Go.Proofs.YtaojbcplmdjfnaaDoorW.PrintLast Go.Proofs.YtaojbcplmdjfnaaDoorW.PrintMore
set_option linter.unusedVariables false
set_option linter.unusedSimpArgs false
theorem C_lit (w : World) (e : TypeId) (xs : List Int) (fr : Nat × Nat) (h : xs.length ≤ 9223372036854775807) :
    Kd.C (Kd.int .u8) (w.alloc (.cells (xs.map (Value.int .u8)).toArray e fr)) (some ⟨w.heap.size, 0, none⟩) xs.length xs := by
  refine Kd.C_of_reads (d := (0 : Int)) (h1 := fun _ => rfl) ⟨rfl, h, fun _ => ⟨_, rfl, fun j hj => ?_⟩⟩
  rw [add_plain, cell_of_row _ _ j _ e fr (heap_alloc_new w _)]
  simp [List.getElem?_eq_getElem hj, List.getD_eq_getElem?_getD]
def galleylaw05_fixed.f : Option Bool := some true
set_option maxRecDepth 100000 in
theorem fx1 : weld_Of.f [240, 159] = some (2, 2, 2, 0, ⟨#[240, 159]⟩, ⟨#[240, 159]⟩) := by kernel_rfl
set_option maxRecDepth 100000 in
theorem fx2 : weld_Of.f [152, 128, 13] = some (3, 3, 3, 1, ⟨#[152, 128, 13]⟩, ⟨#[152, 128, 13]⟩) := by kernel_rfl
set_option maxRecDepth 100000 in
theorem fx3 : weld_Join.f 30 2 2 2 0 ⟨#[240, 159]⟩ ⟨#[240, 159]⟩ 3 3 3 1 ⟨#[152, 128, 13]⟩ ⟨#[152, 128, 13]⟩ = some (5, 2, 3, 1, ⟨#[240, 159, 152]⟩, ⟨#[152, 128, 13]⟩, 0) := by kernel_rfl
set_option maxRecDepth 100000 in
theorem fx4 : weld_Seam.f 30 2 2 2 0 ⟨#[240, 159]⟩ ⟨#[240, 159]⟩ 3 3 3 1 ⟨#[152, 128, 13]⟩ ⟨#[152, 128, 13]⟩ = some (0, 3, 2, 0, 0) := by kernel_rfl
set_option maxRecDepth 100000 in
theorem fx5 : weld_Valid.f 30 5 2 3 1 ⟨#[240, 159, 152]⟩ ⟨#[152, 128, 13]⟩ = some true := by kernel_rfl
theorem weld_cells {W : World} {b : Nat} {i1 i2 i3 i4 : Int} {s1 s2 : ByteArray} {t : TypeId} {fr : Nat × Nat} (h : W.heap[b]? = some (.cells #[.int .i64 i1, .int .i64 i2, .int .i64 i3, .int .i64 i4, .string s1, .string s2] t fr)) :
    W.cell? ⟨b, 0, none⟩ = some (.int .i64 i1) ∧ W.cell? ⟨b, 1, none⟩ = some (.int .i64 i2) ∧ W.cell? ⟨b, 2, none⟩ = some (.int .i64 i3) ∧ W.cell? ⟨b, 3, none⟩ = some (.int .i64 i4) ∧ W.cell? ⟨b, 4, none⟩ = some (.string s1) ∧ W.cell? ⟨b, 5, none⟩ = some (.string s2) := by
  refine ⟨?_, ?_, ?_, ?_, ?_, ?_⟩ <;> (rw [cell_of_row _ _ _ _ _ _ h]; rfl)
set_option maxHeartbeats 8000000 in
set_option maxRecDepth 100000 in
theorem galleylaw05_fixed.calls (r : Bool) (w : World) (hG : Glob.Globs w) (h : galleylaw05_fixed.f = some r) :
    Calls Tryd.prog 10 #[] w fun e w' => e = .returned (.bool r) ∧ Below w.heap.size w w' := by
  obtain rfl : true = r := Option.some.inj h
  clear h
  have HG := Lib.hid hG
  clear hG
  have kc := fun (w : World) (C : Array Value) (n c : Nat) => Lib.run_convert_bytes_const (P := Tryd.prog) w 29 5 C n c Tryd.underlying29 Tryd.underlying5
  go_enter Tryd.func10, Tryd.ntmps10
  go_wp2_with fail
  refine (weld_Of.calls _ 2 [240, 159] 2 2 2 0 _ _ _ (Glob.Globs_alloc HG.out _) (C_lit w 5 [240, 159] (2, 3) (by decide)) (by decide) fx1).mono ?_
  rintro e w1 ⟨rfl, hb1⟩
  have B1 : Below w.heap.size w w1 := below_step ((Below.refl _ w).alloc (Nat.le_refl _) _) hb1
  have BB1 := Lib.hid B1
  clear B1 hb1
  go_wp2_with fail
  refine (weld_Of.calls _ 3 [152, 128, 13] 3 3 3 1 _ _ _ (Glob.Globs_alloc (Glob.Globs_below HG.out BB1.out) _) (C_lit w1 5 [152, 128, 13] (3, 4) (by decide)) (by decide) fx2).mono ?_
  rintro e w2 ⟨rfl, hb2⟩
  have B2 : Below w.heap.size w w2 := below_step (BB1.out.alloc BB1.out.size _) hb2
  have BB2 := Lib.hid B2
  clear B2 hb2
  go_wp2_with fail
  refine (weld_Join.calls 30 2 2 2 0 _ _ 3 3 3 1 _ _ 5 2 3 1 _ _ 0 _ ?gj fx3).mono ?_
  case gj => repeat (first | exact Glob.Globs_below HG.out BB2.out | (with_reducible refine Glob.Globs_alloc ?_ _))
  rintro e w3 ⟨rfl, hb3⟩
  have ha := (hb3.block _ (by simp; omega)).trans (blk_alloc (blk_new w2 _) _)
  have hB := (hb3.block _ (by simp)).trans (blk_new (w2.alloc _) _)
  simp only [World.size_alloc] at hB
  have B3 := Lib.hid (below_step ((BB2.out.alloc BB2.out.size _).alloc (Nat.le_trans BB2.out.size (by simp)) _) hb3)
  have hsz : w2.heap.size < w3.heap.size := by have := hb3.size; simp at this; omega
  have hsz1 : w2.heap.size + 1 < w3.heap.size := by have := hb3.size; simp at this; omega
  clear hb3
  have HA := Lib.hid ha
  have HBB := Lib.hid hB
  obtain ⟨a1, a2, a3, a4, a5, a6⟩ := weld_cells ha
  obtain ⟨b1, b2, b3, b4, b5, b6⟩ := weld_cells hB
  clear ha hB
  go_wp2_with fail
  refine (weld_Seam.calls 30 2 2 2 0 _ _ 3 3 3 1 _ _ 0 3 2 0 0 _ ?gj2 fx4).mono ?_
  case gj2 => repeat (first | exact Glob.Globs_below HG.out B3.out | (with_reducible refine Glob.Globs_alloc ?_ _))
  rintro e w4 ⟨rfl, hb4⟩
  have hA4 := (hb4.block _ (by simp; omega)).trans (blk_alloc HA.out _)
  have hC4 := (hb4.block _ (by simp)).trans (blk_new w3 _)
  have B4 := Lib.hid (below_step (B3.out.alloc B3.out.size _) hb4)
  have hsz4 : w3.heap.size < w4.heap.size := by have := hb4.size; simp at this; omega
  have hsz5 : w2.heap.size < w4.heap.size := by omega
  clear hb4 a1 a2 a3 a4 a5 a6 b1 b2 b3 b4 b5 b6
  have HC4 := Lib.hid hC4
  obtain ⟨a1, a2, a3, a4, a5, a6⟩ := weld_cells hA4
  obtain ⟨c1, c2, c3, c4, c5, c6⟩ := weld_cells hC4
  clear hA4 hC4
  go_wp2_with fail
  refine (weld_Valid.calls 30 5 2 3 1 _ _ true _ ?gj3 fx5).mono ?_
  case gj3 => repeat (first | exact Glob.Globs_below HG.out B4.out | (with_reducible refine Glob.Globs_alloc ?_ _))
  rintro e w5 ⟨rfl, hb5⟩
  have B5 := Lib.hid (below_step (B4.out.alloc B4.out.size _) hb5)
  clear hb5
  go_wp2_with fail
  go_ret
  exact ⟨rfl, B5.out⟩
end Go.Proofs.YtaojbcplmdjfnaaDoor.Pr
