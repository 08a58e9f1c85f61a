/- The language's own decoding of a string, by the table of encodings; which places lie inside one. No program in sight. Conditions: as each lemma says. -/
import Derived.Test.YtiolhoaoepgmcaaDoorSz
namespace Go.Proofs.YtiolhoaoepgmcaaDoor.Math
open Go.RowKit
set_option linter.unusedVariables false
set_option linter.unusedSimpArgs false

/-- The rune and the width of the step that begins with these. -/
def dcT (X Y Z W : Nat) (n : Nat) : Nat × Nat :=
  if n = 0 then (65533, 1) else if n = 1 then (X, 1) else if n = 2 then (X % 32 * 64 + Y % 64, 2) else if n = 3 then (X % 16 * 4096 + Y % 64 * 64 + Z % 64, 3) else (X % 8 * 262144 + Y % 64 * 4096 + Z % 64 * 64 + W % 64, 4)
set_option maxHeartbeats 4000000 in
theorem dec_core (n X Y Z W : Nat) (y z w : Int) (hX : X < 256) (hY : Y < 256) (hZ : Z < 256) (hW : W < 256) (h1 : 1 < n → y = Y) (h1' : n ≤ 1 → y = -1) (h2 : 2 < n → z = Z) (h2' : n ≤ 2 → z = -1) (h3 : 3 < n → w = W) (h3' : n ≤ 3 → w = -1) :
    Lib.decodeN n X Y Z W = dcT X Y Z W (lgT X y z w) := by
  unfold lgT
  split
  · show _ = (X, 1)
    unfold Lib.decodeN
    rw [if_pos (by omega)]
  split
  · show _ = (X % 32 * 64 + Y % 64, 2)
    unfold Lib.decodeN
    rw [if_neg (by omega), if_pos (by omega), if_pos (by omega)]
  split
  · show _ = (X % 16 * 4096 + Y % 64 * 64 + Z % 64, 3)
    have g1 : 1 < n := by omega
    have g2 : 2 < n := by omega
    have e1 := h1 g1
    have e2 := h2 g2
    unfold Lib.decodeN
    rw [if_neg (by omega), if_neg (by omega), if_pos (by omega), if_pos (by omega)]
  split
  · show _ = (X % 8 * 262144 + Y % 64 * 4096 + Z % 64 * 64 + W % 64, 4)
    have g1 : 1 < n := by omega
    have g2 : 2 < n := by omega
    have g3 : 3 < n := by omega
    have e1 := h1 g1
    have e2 := h2 g2
    have e3 := h3 g3
    have m1 : Y % 64 = Y - 128 := by omega
    have m2 : Z % 64 = Z - 128 := by omega
    have m3 : W % 64 = W - 128 := by omega
    have m0 : X % 8 = X - 240 := by omega
    unfold Lib.decodeN
    rw [if_neg (by omega), if_neg (by omega), if_neg (by omega), if_pos (by omega), m0, m1, m2, m3, if_pos (by omega)]
  · show _ = (65533, 1)
    rename_i c1 c2 c3 c4
    unfold Lib.decodeN
    rw [if_neg (by omega)]
    split
    · rename_i d
      have g1 : 1 < n := d.2.1
      have e1 := h1 g1
      rw [if_neg (by omega)]
    split
    · rename_i _ d
      have g1 : 1 < n := d.2.1.1
      have g2 : 2 < n := d.2.2.1
      have e1 := h1 g1
      have e2 := h2 g2
      rw [if_neg (by omega)]
    split
    · rename_i _ _ d
      have g1 : 1 < n := d.2.1.1
      have g2 : 2 < n := d.2.2.1.1
      have g3 : 3 < n := d.2.2.2.1
      have e1 := h1 g1
      have e2 := h2 g2
      have e3 := h3 g3
      have m1 : Y % 64 = Y - 128 := by omega
      have m2 : Z % 64 = Z - 128 := by omega
      have m3 : W % 64 = W - 128 := by omega
      have m0 : X % 8 = X - 240 := by omega
      rw [m0, m1, m2, m3, if_neg (by omega)]
    · rfl

theorem Byt.drop {l : List Int} (h : Byt l) (n : Nat) : Byt (l.drop n) := fun x hx => h x (List.mem_of_mem_drop hx)
theorem Byt.take {l : List Int} (h : Byt l) (n : Nat) : Byt (l.take n) := fun x hx => h x (List.mem_of_mem_take hx)
theorem Byt.append {l m : List Int} (h : Byt l) (h' : Byt m) : Byt (l ++ m) := fun x hx => (List.mem_append.1 hx).elim (h x) (h' x)
theorem Byt.getD {l : List Int} (h : Byt l) (k : Nat) (hk : k < l.length) (d : Int) : 0 ≤ l.getD k d ∧ l.getD k d ≤ 255 := by
  have e : l.getD k d = l[k] := by simp [List.getD, List.getElem?_eq_getElem hk]
  rw [e]; exact h _ (List.getElem_mem hk)
theorem str_getD (l : List Int) (hb : Byt l) (k : Nat) : (((strOfNums l).data.toList.getD k 0).toNat : Int) = l.getD k 0 := by
  rw [strOfNums_data]
  by_cases hk : k < l.length
  · have := hb.getD k hk 0
    have e : l.getD k 0 = l[k] := by simp [List.getD, List.getElem?_eq_getElem hk]
    simp only [List.getD_eq_getElem?_getD, List.getElem?_map, List.getElem?_eq_getElem hk, Option.map_some, Option.getD_some] at *
    rw [UInt8.toNat_ofNat']
    omega
  · simp [List.getD, List.getElem?_eq_none (Nat.le_of_not_lt hk)]
theorem getD_swap {l : List Int} {k : Nat} (hk : k < l.length) (c d : Int) : l.getD k c = l.getD k d := by simp [List.getD, List.getElem?_eq_getElem hk]
theorem getD_drop' (l : List Int) (p k : Nat) (d : Int) : (l.drop p).getD k d = l.getD (p + k) d := by simp [List.getD, List.getElem?_drop]
/-- Decoding at a place. -/
theorem decode_eq (l : List Int) (hb : Byt l) (p : Nat) (hp : p < l.length) : ((Utf8.decode (strOfNums l) p).1 : Int) = ru (l.drop p) ∧ (Utf8.decode (strOfNums l) p).2 = wd (l.drop p) := by
  rw [Lib.decode_N]
  have hlen : (strOfNums l).data.toList.length = l.length := by rw [strOfNums_data, List.length_map]
  rw [hlen]
  obtain ⟨x, t, hxt⟩ : ∃ x t, l.drop p = x :: t := by
    cases h : l.drop p with
    | nil => have := congrArg List.length h; simp at this; omega
    | cons x t => exact ⟨x, t, rfl⟩
  have hbt : Byt (x :: t) := hxt ▸ hb.drop p
  have htl : t.length + 1 = l.length - p := by have := congrArg List.length hxt; simp at this; omega
  have gk : ∀ k, l.getD (p + k) 0 = (x :: t).getD k 0 := fun k => by rw [← hxt, getD_drop']
  have s0 := str_getD l hb p
  have s1 := str_getD l hb (p + 1)
  have s2 := str_getD l hb (p + 2)
  have s3 := str_getD l hb (p + 3)
  have g0 := gk 0
  rw [Nat.add_zero] at g0
  rw [g0] at s0
  rw [gk 1] at s1
  rw [gk 2] at s2
  rw [gk 3] at s3
  simp only [List.getD_cons_zero, List.getD_cons_succ] at s0 s1 s2 s3
  have b0 := UInt8.toNat_lt ((strOfNums l).data.toList.getD p 0)
  have b1 := UInt8.toNat_lt ((strOfNums l).data.toList.getD (p + 1) 0)
  have b2 := UInt8.toNat_lt ((strOfNums l).data.toList.getD (p + 2) 0)
  have b3 := UInt8.toNat_lt ((strOfNums l).data.toList.getD (p + 3) 0)
  generalize ((strOfNums l).data.toList.getD p 0).toNat = X at *
  generalize ((strOfNums l).data.toList.getD (p + 1) 0).toNat = Y at *
  generalize ((strOfNums l).data.toList.getD (p + 2) 0).toNat = Z at *
  generalize ((strOfNums l).data.toList.getD (p + 3) 0).toNat = W at *
  rw [dec_core (l.length - p) X Y Z W (t.getD 0 (-1)) (t.getD 1 (-1)) (t.getD 2 (-1)) b0 b1 b2 b3
    (fun h => by rw [s1]; exact getD_swap (by omega) _ _) (fun h => getD_m1 t 0 (by omega))
    (fun h => by rw [s2]; exact getD_swap (by omega) _ _) (fun h => getD_m1 t 1 (by omega))
    (fun h => by rw [s3]; exact getD_swap (by omega) _ _) (fun h => getD_m1 t 2 (by omega)), hxt]
  have hg : lg (x :: t) = lgT X (t.getD 0 (-1)) (t.getD 1 (-1)) (t.getD 2 (-1)) := by rw [s0]; rfl
  have hll := lg_len (x :: t)
  rw [← hg]
  have h4 := lg_le (x :: t)
  unfold ru wd dcT
  have hc : lg (x :: t) = 0 ∨ lg (x :: t) = 1 ∨ lg (x :: t) = 2 ∨ lg (x :: t) = 3 ∨ lg (x :: t) = 4 := by omega
  rcases hc with e | e | e | e | e
  · simp [e]
  · simp only [e, List.take_succ_cons, List.take_zero, num]; simp [s0]
  · match t, hll, s1 with
    | y :: t', _, s1 =>
      simp only [List.getD_cons_zero] at s1
      simp only [e, List.take_succ_cons, List.take_zero, num]; simp; omega
    | [], hll, _ => rw [e] at hll; simp at hll
  · match t, hll, s1, s2 with
    | y :: z :: t', _, s1, s2 =>
      simp only [List.getD_cons_zero, List.getD_cons_succ] at s1 s2
      simp only [e, List.take_succ_cons, List.take_zero, num]; simp; omega
    | [_], hll, _, _ => rw [e] at hll; simp at hll
    | [], hll, _, _ => rw [e] at hll; simp at hll
  · match t, hll, s1, s2, s3 with
    | y :: z :: w :: t', _, s1, s2, s3 =>
      simp only [List.getD_cons_zero, List.getD_cons_succ] at s1 s2 s3
      simp only [e, List.take_succ_cons, List.take_zero, num]; simp; omega
    | [_, _], hll, _, _, _ => rw [e] at hll; simp at hll
    | [_], hll, _, _, _ => rw [e] at hll; simp at hll
    | [], hll, _, _, _ => rw [e] at hll; simp at hll

/-- Does an encoding begin one, two or three bytes ahead of the place and end behind it? -/
def insB (l : List Int) (p : Nat) : Bool := decide (1 ≤ p ∧ 1 < lg (l.drop (p - 1))) || (decide (2 ≤ p ∧ 2 < lg (l.drop (p - 2))) || decide (3 ≤ p ∧ 3 < lg (l.drop (p - 3))))
theorem insB_true (l : List Int) (p : Nat) : insB l p = true ↔ ∃ k, 1 ≤ k ∧ k ≤ 3 ∧ k ≤ p ∧ k < lg (l.drop (p - k)) := by
  unfold insB
  simp only [Bool.or_eq_true, decide_eq_true_eq]
  constructor
  · rintro (h | h | h)
    · exact ⟨1, by omega, by omega, h.1, h.2⟩
    · exact ⟨2, by omega, by omega, h.1, h.2⟩
    · exact ⟨3, by omega, by omega, h.1, h.2⟩
  · rintro ⟨k, h1, h3, hp, hl⟩
    have : k = 1 ∨ k = 2 ∨ k = 3 := by omega
    rcases this with rfl | rfl | rfl
    · exact .inl ⟨hp, hl⟩
    · exact .inr (.inl ⟨hp, hl⟩)
    · exact .inr (.inr ⟨hp, hl⟩)
theorem insB_false (l : List Int) (p : Nat) : insB l p = false ↔ ∀ k, 1 ≤ k → k ≤ 3 → k ≤ p → lg (l.drop (p - k)) ≤ k := by
  rw [← Bool.not_eq_true, insB_true]
  constructor
  · intro h k h1 h2 h3
    apply Nat.le_of_not_lt
    intro h4
    exact h ⟨k, h1, h2, h3, h4⟩
  · rintro h ⟨k, h1, h2, h3, h4⟩
    have := h k h1 h2 h3
    omega
theorem insB_zero (l : List Int) : insB l 0 = false := (insB_false l 0).2 (fun k h1 _ h3 => by omega)
theorem lg_drop_tail (l : List Int) (p j : Nat) (h1 : 1 ≤ j) (h2 : j < lg (l.drop p)) : lg (l.drop (p + j)) = 0 := by
  have := lg_tails _ j h1 h2
  rw [getD_drop'] at this
  have hlt : p + j < l.length := by have := lg_len (l.drop p); simp at this; omega
  obtain ⟨x, t, hxt⟩ : ∃ x t, l.drop (p + j) = x :: t := by
    cases h : l.drop (p + j) with
    | nil => have := congrArg List.length h; simp at this; omega
    | cons x t => exact ⟨x, t, rfl⟩
  have e : x = l.getD (p + j) (-1) := by
    have := getD_drop' l (p + j) 0 (-1)
    rw [hxt] at this
    simpa using this
  rw [hxt]
  exact lg_tail t (by omega)
/-- From an edge on: what the step goes over lies inside, its end doesn't. -/
theorem ins_step (l : List Int) (p : Nat) (he : insB l p = false) : (∀ i, 1 ≤ i → i < wd (l.drop p) → insB l (p + i) = true) ∧ insB l (p + wd (l.drop p)) = false := by
  have hle := lg_le (l.drop p)
  constructor
  · intro i h1 h2
    have hl : i < lg (l.drop p) := by unfold wd at h2; split at h2 <;> omega
    exact (insB_true l _).2 ⟨i, h1, by omega, by omega, by rwa [Nat.add_sub_cancel]⟩
  · rw [insB_false] at he ⊢
    intro k h1 h3 hk
    by_cases hq : k < wd (l.drop p)
    · have hl : wd (l.drop p) = lg (l.drop p) := by
        by_cases h0 : lg (l.drop p) = 0
        · unfold wd at hq; rw [if_pos h0] at hq; omega
        · unfold wd; rw [if_neg h0]
      have := lg_drop_tail l p (wd (l.drop p) - k) (by omega) (by omega)
      rw [show p + wd (l.drop p) - k = p + (wd (l.drop p) - k) by omega, this]
      omega
    · have hw := wd_pos (l.drop p)
      by_cases hq2 : k = wd (l.drop p)
      · rw [show p + wd (l.drop p) - k = p by omega]
        unfold wd at hq2; split at hq2 <;> omega
      · have := he (k - wd (l.drop p)) (by omega) (by omega) (by omega)
        rw [show p + wd (l.drop p) - k = p - (k - wd (l.drop p)) by omega]
        omega
/-- No encoding goes over the end. -/
theorem ins_end (l : List Int) : insB l l.length = false := by
  rw [insB_false]
  intro k _ _ hk
  have := lg_len (l.drop (l.length - k))
  simp at this
  omega
/-- The edges from a place on. -/
def edF (l : List Int) (p n : Nat) : List Nat := (List.range' p n).filter (fun q => !insB l q)
theorem edF_step (l : List Int) (p : Nat) (hp : p < l.length) (he : insB l p = false) : edF l p (l.length - p) = p :: edF l (p + wd (l.drop p)) (l.length - (p + wd (l.drop p))) := by
  obtain ⟨h1, h2⟩ := ins_step l p he
  have hw := wd_pos (l.drop p)
  have hwl : p + wd (l.drop p) ≤ l.length := by
    have := lg_len (l.drop p); simp at this
    unfold wd; split <;> omega
  unfold edF
  have e : l.length - p = 1 + ((wd (l.drop p) - 1) + (l.length - (p + wd (l.drop p)))) := by omega
  rw [e, Nat.add_comm 1, List.range'_succ, List.filter_cons, he]
  simp only [Bool.not_false, if_true]
  rw [← List.range'_append_1, List.filter_append]
  have e0 : List.filter (fun q => !insB l q) (List.range' (p + 1) (wd (l.drop p) - 1)) = [] := by
    rw [List.filter_eq_nil_iff]
    intro a ha
    rw [List.mem_range'_1] at ha
    have := h1 (a - p) (by omega) (by omega)
    rw [show p + (a - p) = a by omega] at this
    simp [this]
  rw [e0, List.nil_append, show p + 1 + (wd (l.drop p) - 1) = p + wd (l.drop p) by omega]
end Go.Proofs.YtiolhoaoepgmcaaDoor.Math
