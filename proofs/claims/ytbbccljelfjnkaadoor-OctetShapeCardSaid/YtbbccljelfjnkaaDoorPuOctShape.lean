/- Proved here: the pure statement of the law OctetShape: bytes are whole just when ranging over them as a string gives one rune that is no bad byte; what is whole has as many bytes as Need says, Tails behind the first, a second one that Second takes, and is the Bytes of its Value. Conditions: bytes lie in 0 .. 255. -/
import Derived.Test.YtbbccljelfjnkaaDoorEvBytes
import Derived.Test.YtbbccljelfjnkaaDoorDec
import Derived.Test.YtbbccljelfjnkaaDoorShape
namespace Go.Proofs.YtbbccljelfjnkaaDoor.Pure
open Go.RowKit Go.Proofs.YtbbccljelfjnkaaDoor.Pr Go.Proofs.YtbbccljelfjnkaaDoor.Math Go.Proofs.YtbbccljelfjnkaaDoor.Ev Go.Proofs.YtbbccljelfjnkaaDoorW.PrintWords Go.Proofs.YtbbccljelfjnkaaDoorW.PrintLast
set_option linter.unusedVariables false
set_option linter.unusedSimpArgs false
theorem whole_lg (l : List Int) (h : Byt l) : whole l = true ↔ l ≠ [] ∧ lg l = l.length := by
  match l, h with
  | [], _ => simp [whole]
  | [x0], h =>
    have b0 := h x0 (by simp)
    simp only [whole, lg, List.length_cons, List.length_nil, decide_eq_true_eq, ne_eq, reduceCtorEq, not_false_eq_true, true_and]
    have := lgT_cases x0 (List.getD [] 0 (-1)) (List.getD [] 1 (-1)) (List.getD [] 2 (-1))
    constructor
    · intro hn
      unfold lgT; rw [if_pos (by unfold need at hn; (repeat' split at hn) <;> omega)]
    · intro hn
      rw [need_1 (by omega)]
  | [x0, x1], h =>
    simp only [whole, lg, List.length_cons, List.length_nil, Bool.and_eq_true, decide_eq_true_eq, ne_eq, reduceCtorEq, not_false_eq_true, true_and, List.getD_cons_zero, List.getD_cons_succ, sec_iff]
    have := lgT_cases x0 x1 (List.getD [] 0 (-1)) (List.getD [] 1 (-1))
    constructor
    · rintro ⟨hn, h1, h2⟩
      have hx : 194 ≤ x0 ∧ x0 < 224 := by unfold need at hn; (repeat' split at hn) <;> omega
      unfold lgT; rw [if_neg (by omega), if_pos (by omega)]
    · intro hn
      rw [need_2 (by omega) (by omega)]
      omega
  | [x0, x1, x2], h =>
    simp only [whole, lg, List.length_cons, List.length_nil, Bool.and_eq_true, decide_eq_true_eq, ne_eq, reduceCtorEq, not_false_eq_true, true_and, List.getD_cons_zero, List.getD_cons_succ, sec_iff, tl_iff]
    constructor
    · rintro ⟨hn, ⟨h1, h2⟩, h3⟩
      have hx : 224 ≤ x0 ∧ x0 < 240 := by unfold need at hn; (repeat' split at hn) <;> omega
      unfold lgT; rw [if_neg (by omega), if_neg (by omega), if_pos (by omega)]
    · intro hn
      unfold lgT at hn
      split at hn
      · omega
      · split at hn
        · omega
        · split at hn
          · rw [need_3 (by omega) (by omega)]; omega
          · split at hn <;> omega
  | [x0, x1, x2, x3], h =>
    simp only [whole, lg, List.length_cons, List.length_nil, Bool.and_eq_true, decide_eq_true_eq, ne_eq, reduceCtorEq, not_false_eq_true, true_and, List.getD_cons_zero, List.getD_cons_succ, sec_iff, tl_iff]
    constructor
    · rintro ⟨hn, ⟨h1, h2⟩, h3, h4⟩
      have hx : 240 ≤ x0 ∧ x0 < 245 := by unfold need at hn; (repeat' split at hn) <;> omega
      unfold lgT; rw [if_neg (by omega), if_neg (by omega), if_neg (by omega), if_pos (by omega)]
    · intro hn
      unfold lgT at hn
      split at hn
      · omega
      · split at hn
        · omega
        · split at hn
          · omega
          · split at hn
            · rw [need_4 (by omega) (by omega)]; omega
            · omega
  | x0 :: x1 :: x2 :: x3 :: x4 :: r, _ =>
    simp only [whole, Bool.false_eq_true, false_iff]
    rintro ⟨_, hn⟩
    have := lg_le (x0 :: x1 :: x2 :: x3 :: x4 :: r)
    rw [hn] at this
    simp at this
/-- The value's rune, where it is one. -/
theorem enc_whole (l : List Int) (hb : Byt l) (h : whole l = true) : enc (num l) = l := by
  match l, hb, h with
  | [x0], hb, h =>
    have b0 := hb x0 (by simp)
    simp only [whole, decide_eq_true_eq] at h
    have hx : x0 < 128 := by unfold need at h; (repeat' split at h) <;> omega
    rw [show num [x0] = x0 from rfl]
    unfold enc isR enc0
    rw [if_pos (by simp; omega), if_pos hx]
  | [x0, x1], hb, h =>
    simp only [whole, Bool.and_eq_true, decide_eq_true_eq, sec_iff] at h
    have hx : 194 ≤ x0 ∧ x0 < 224 := by obtain ⟨hn, _⟩ := h; unfold need at hn; (repeat' split at hn) <;> omega
    rw [show num [x0, x1] = x0 % 32 * 64 + x1 % 64 from rfl]
    unfold enc isR enc0
    rw [if_pos (by simp; omega), if_neg (by omega), if_pos (by omega)]
    have e0 : 192 + (x0 % 32 * 64 + x1 % 64) / 64 = x0 := by omega
    have e1 : 128 + (x0 % 32 * 64 + x1 % 64) % 64 = x1 := by omega
    rw [e0, e1]
  | [x0, x1, x2], hb, h =>
    simp only [whole, Bool.and_eq_true, decide_eq_true_eq, sec_iff, tl_iff] at h
    have hx : 224 ≤ x0 ∧ x0 < 240 := by obtain ⟨hn, _⟩ := h; unfold need at hn; (repeat' split at hn) <;> omega
    obtain ⟨_, ⟨_, h1, h2, s1, s2, s3, s4⟩, h3, h4⟩ := h
    rw [show num [x0, x1, x2] = (x0 % 16 * 64 + x1 % 64) * 64 + x2 % 64 from rfl]
    unfold enc isR enc0
    rw [if_pos (by simp; omega), if_neg (by omega), if_neg (by omega), if_pos (by omega)]
    have e0 : 224 + ((x0 % 16 * 64 + x1 % 64) * 64 + x2 % 64) / 4096 = x0 := by omega
    have e1 : 128 + ((x0 % 16 * 64 + x1 % 64) * 64 + x2 % 64) / 64 % 64 = x1 := by omega
    have e2 : 128 + ((x0 % 16 * 64 + x1 % 64) * 64 + x2 % 64) % 64 = x2 := by omega
    rw [e0, e1, e2]
  | [x0, x1, x2, x3], hb, h =>
    simp only [whole, Bool.and_eq_true, decide_eq_true_eq, sec_iff, tl_iff] at h
    have hx : 240 ≤ x0 ∧ x0 < 245 := by obtain ⟨hn, _⟩ := h; unfold need at hn; (repeat' split at hn) <;> omega
    obtain ⟨_, ⟨_, h1, h2, s1, s2, s3, s4⟩, ⟨h3, h4⟩, h5, h6⟩ := h
    rw [show num [x0, x1, x2, x3] = ((x0 % 8 * 64 + x1 % 64) * 64 + x2 % 64) * 64 + x3 % 64 from rfl]
    unfold enc isR enc0
    rw [if_pos (by simp; omega), if_neg (by omega), if_neg (by omega), if_neg (by omega)]
    have e0 : 240 + (((x0 % 8 * 64 + x1 % 64) * 64 + x2 % 64) * 64 + x3 % 64) / 262144 = x0 := by omega
    have e1 : 128 + (((x0 % 8 * 64 + x1 % 64) * 64 + x2 % 64) * 64 + x3 % 64) / 4096 % 64 = x1 := by omega
    have e2 : 128 + (((x0 % 8 * 64 + x1 % 64) * 64 + x2 % 64) * 64 + x3 % 64) / 64 % 64 = x2 := by omega
    have e3 : 128 + (((x0 % 8 * 64 + x1 % 64) * 64 + x2 % 64) * 64 + x3 % 64) % 64 = x3 := by omega
    rw [e0, e1, e2, e3]

theorem str_size (l : List Int) : (strOfNums l).size = l.length := by
  have := congrArg List.length (strOfNums_data l)
  rw [List.length_map] at this
  exact this
theorem scan_mono (s : ByteArray) : ∀ (f pos : Nat) (n : Int) (o : Bool), 0 ≤ n → n + f ≤ 9223372036854775807 → n ≤ (scanF s f pos n o).1 := by
  intro f
  induction f with
  | zero => intro pos n o _ _; exact Int.le_refl _
  | succ f ih =>
    intro pos n o h0 h1
    rw [scanF]
    split
    · rw [wrap64_in' (by omega) (by omega)]
      have := ih (pos + (Utf8.decode s pos).2) (n + 1) (if ((Utf8.decode s pos).1 : Int) = 65533 then (s.toList == [239, 191, 189]) else true) (by omega) (by omega)
      omega
    · exact Int.le_refl _
/-- What ranging over the bytes tells. -/
theorem scan_tells (l : List Int) (hb : Byt l) (hl : l.length ≤ 140737488351232) : (scanF (strOfNums l) (strOfNums l).size 0 0 false).1 = 1 ∧ (scanF (strOfNums l) (strOfNums l).size 0 0 false).2 = true ↔ whole l = true := by
  rw [whole_lg l hb, str_size]
  match l, hb, hl with
  | [], _, _ => simp [scanF]
  | x :: t, hb, hl =>
    have hd := decode_eq (x :: t) hb 0 (by simp)
    rw [List.drop_zero] at hd
    have hw := wd_le x t
    have hw1 := wd_pos (x :: t)
    rw [List.length_cons, scanF_step _ _ _ _ _ (by rw [str_size]; simp), hd.2, hd.1, Nat.zero_add, Int.zero_add, wrap64_in' (n := 1) (by omega) (by omega)]
    generalize ho : (if ru (x :: t) = 65533 then ((strOfNums (x :: t)).toList == [239, 191, 189]) else true) = o
    simp only [ne_eq, reduceCtorEq, not_false_eq_true, true_and]
    have hll := lg_len (x :: t)
    rw [List.length_cons] at hll hw
    by_cases hend : wd (x :: t) = t.length + 1
    · rw [hend, scanF_end _ _ _ _ _ (by rw [str_size]; simp)]
      simp only [true_and]
      unfold wd at hend
      by_cases h0 : lg (x :: t) = 0
      · rw [if_pos h0] at hend
        rw [h0]
        constructor
        · intro h
          rw [← ho] at h
          unfold ru at h
          rw [if_pos h0, if_pos rfl] at h
          have := congrArg List.length (eq_of_beq h)
          rw [str_toList] at this
          simp at this
          omega
        · intro h
          omega
      · rw [if_neg h0] at hend
        refine ⟨fun _ => hend, fun _ => ?_⟩
        rw [← ho]
        split
        · rename_i hr
          unfold ru at hr
          rw [if_neg h0, hend, show t.length + 1 = (x :: t).length from rfl, List.take_length] at hr
          have hwh : whole (x :: t) = true := (whole_lg _ hb).2 ⟨by simp, by rw [hend]; rfl⟩
          have := enc_whole _ hb hwh
          rw [hr] at this
          rw [← this, str_toList]
          rfl
        · rfl
    · have hne : lg (x :: t) ≠ t.length + 1 := by
        intro h
        unfold wd at hend
        rw [if_neg (by omega)] at hend
        exact hend h
      refine ⟨fun h => absurd h.1 ?_, fun h => absurd h hne⟩
      obtain ⟨f, hf⟩ : ∃ f, t.length = f + 1 := ⟨t.length - 1, by omega⟩
      rw [hf, scanF_step _ _ _ _ _ (by rw [str_size]; simp; omega), wrap64_in' (by omega) (by omega)]
      have hm := scan_mono (strOfNums (x :: t)) f (wd (x :: t) + (Utf8.decode (strOfNums (x :: t)) (wd (x :: t))).2) (1 + 1) (if ((Utf8.decode (strOfNums (x :: t)) (wd (x :: t))).1 : Int) = 65533 then ((strOfNums (x :: t)).toList == [239, 191, 189]) else true) (by omega) (by rw [List.length_cons] at hl; omega)
      omega
/-- The loop over the bytes behind the first. -/
theorem tails_loop (l : List Int) (hb : Byt l) (hl : l.length ≤ 140737488351232) (d : Nat) : ∀ (k i : Nat), 1 ≤ i → i + d = l.length → d < k → (∀ j, i ≤ j → j < l.length → 128 ≤ l.getD j 0 ∧ l.getD j 0 ≤ 191) → galleylaw01_OctetShape.l0 k l i = some true := by
  induction d with
  | zero =>
    intro k i _ hi hk _
    obtain ⟨k, rfl⟩ : ∃ m, k = m + 1 := ⟨k - 1, by omega⟩
    rw [galleylaw01_OctetShape.l0, if_neg (by omega)]
  | succ d ih =>
    intro k i h1 hi hk ht
    obtain ⟨k, rfl⟩ : ∃ m, k = m + 1 := ⟨k - 1, by omega⟩
    have hr : rd l i = l.getD i 0 := by unfold rd; simp
    have hbi := hb.getD i (by omega) 0
    rw [galleylaw01_OctetShape.l0, if_pos (by omega), if_pos (by omega), hr, o_Class _ hbi]
    simp only [Option.bind_some]
    rw [if_pos ((cls_two _ hbi.1 hbi.2).2 (ht i (Nat.le_refl _) (by omega))), wrap64_in' (by omega) (by omega)]
    have := ih k (i + 1) (by omega) (by omega) (by omega) (fun j hj => ht j (by omega))
    simpa using this
theorem whole_facts (l : List Int) (hb : Byt l) (h : whole l = true) : 0 < l.length ∧ need (l.getD 0 0) = l.length ∧ (1 < l.length → sec (l.getD 0 0) (l.getD 1 0) = true) ∧ ∀ j, 1 ≤ j → j < l.length → 128 ≤ l.getD j 0 ∧ l.getD j 0 ≤ 191 := by
  match l, hb, h with
  | [x0], hb, h => simp only [whole, decide_eq_true_eq] at h; exact ⟨by simp, by simpa using h, by simp, fun j h1 h2 => by simp at h2; omega⟩
  | [x0, x1], hb, h =>
    simp only [whole, Bool.and_eq_true, decide_eq_true_eq] at h
    have := sec_tail h.2
    refine ⟨by simp, by simpa using h.1, fun _ => h.2, fun j h1 h2 => ?_⟩
    obtain rfl : j = 1 := by simp at h2; omega
    exact this
  | [x0, x1, x2], hb, h =>
    simp only [whole, Bool.and_eq_true, decide_eq_true_eq, tl_iff] at h
    have := sec_tail h.2.1
    refine ⟨by simp, by simpa using h.1, fun _ => h.2.1, fun j h1 h2 => ?_⟩
    have hj : j = 1 ∨ j = 2 := by simp at h2; omega
    rcases hj with rfl | rfl
    · exact this
    · exact h.2.2
  | [x0, x1, x2, x3], hb, h =>
    simp only [whole, Bool.and_eq_true, decide_eq_true_eq, tl_iff] at h
    have := sec_tail h.2.1
    refine ⟨by simp, by simpa using h.1, fun _ => h.2.1, fun j h1 h2 => ?_⟩
    have hj : j = 1 ∨ j = 2 ∨ j = 3 := by simp at h2; omega
    rcases hj with rfl | rfl | rfl
    · exact this
    · exact h.2.2.1
    · exact h.2.2.2
theorem shape_j0 (k : Nat) (l : List Int) (hb : Byt l) (hl : l.length ≤ 140737488351232) (hk : l.length + 20 ≤ k) : galleylaw01_OctetShape.j0 k l (whole l) false = some true := by
  obtain ⟨k, rfl⟩ : ∃ m, k = m + 12 := ⟨k - 12, by omega⟩
  rw [galleylaw01_OctetShape.j0, if_neg (by decide)]
  by_cases h : whole l = true
  · rw [if_pos h]
    obtain ⟨h0, h1, h2, h3⟩ := whole_facts l hb h
    have r0 : rd l 0 = l.getD 0 0 := rfl
    have r1 : rd l 1 = l.getD 1 0 := rfl
    have b0 := hb.getD 0 h0 0
    have hv : val l = num l := by unfold val; rw [if_pos h]
    rw [if_pos (by omega), r0, o_Need _ b0]
    simp only [Option.bind_some]
    rw [if_pos h1]
    simp only [List.nil_append, List.length_nil]
    rw [if_pos (by omega), o_Value (k + 2) l hb]
    simp only [Option.bind_some]
    rw [o_Bytes (k + 2)]
    simp only [Option.bind_some]
    rw [hv, enc_whole l hb h, if_pos rfl]
    have hj : galleylaw01_OctetShape.j1 (k + 11) l false = some true := by
      rw [galleylaw01_OctetShape.j1, if_neg (by decide)]
      exact tails_loop l hb hl (l.length - 1) (k + 10) 1 (by omega) (by omega) (by omega) h3
    by_cases hm : 1 < l.length
    · rw [if_pos (by omega), if_pos (by omega), r1, o_Second _ _ b0]
      simp only [Option.bind_some]
      rw [h2 hm]
      exact hj
    · rw [if_neg (by omega)]
      exact hj
  · rw [if_neg h]
    simp only [Option.bind_some, List.nil_append, List.length_nil]
    rw [if_pos (by omega), o_Value (k + 2) l hb]
    simp only [Option.bind_some]
    unfold val
    rw [if_neg h]
    rfl
theorem OctetShape : galleylaw01_OctetShape.Pure := by
  intro l0 _ hs hw
  have hb : Byt l0 := Byt.of_wf hw
  have hl : l0.length ≤ 140737488351232 := by omega
  refine ⟨l0.length + 40, ?_⟩
  unfold galleylaw01_OctetShape.f shapeScan.f
  rw [show galleylaw01_awake.f = some true from rfl]
  simp only [Option.bind_some, List.nil_append, List.length_nil, if_true]
  rw [if_pos (by omega), show l0.length + 40 = l0.length + 31 + 9 by omega, o_Whole (l0.length + 31) l0 hb]
  simp only [Option.bind_some]
  have ht := scan_tells l0 hb hl
  have hj := shape_j0 (l0.length + 31 + 9) l0 hb hl (by omega)
  by_cases h1 : (scanF (strOfNums l0) (strOfNums l0).size 0 0 false).1 = 1
  · rw [if_pos h1]
    have e : whole l0 = (scanF (strOfNums l0) (strOfNums l0).size 0 0 false).2 := by
      rw [Bool.eq_iff_iff, ← ht]
      simp [h1]
    rw [← e, bne_self_eq_false]
    exact hj
  · rw [if_neg h1]
    have e : whole l0 = false := by
      rw [Bool.eq_false_iff]
      intro h
      exact h1 (ht.2 h).1
    rw [e] at hj ⊢
    exact hj
end Go.Proofs.YtbbccljelfjnkaaDoor.Pure
