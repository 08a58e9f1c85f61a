/- Plain facts on measures of texts: what is too much where two texts meet; when a measure may be. No program in sight. Conditions: as each lemma says. -/
import Derived.Test.YtiolhoaoepgmcaaDoorDec
namespace Go.Proofs.YtiolhoaoepgmcaaDoor.Math
set_option linter.unusedVariables false
set_option linter.unusedSimpArgs false

theorem rn_bounds' (l : List Int) : 0 ≤ fr l ∧ 0 ≤ rn l ∧ rn l ≤ l.length ∧ fr l ≤ rn l ∧ rn l + 3 * fr l ≤ l.length := by
  generalize hn : l.length = n
  induction n using Nat.strongRecOn generalizing l with
  | ind n ih =>
    cases l with
    | nil => simp [rn, fr]
    | cons x t =>
      have hw := wd_pos (x :: t)
      have hwl := wd_le x t
      have hd : ((x :: t).drop (wd (x :: t))).length = n - wd (x :: t) := by rw [List.length_drop, hn]
      have h := ih (n - wd (x :: t)) (by simp at hn; omega) _ hd
      rw [rn_step, fr_step]
      have hw4 : lg (x :: t) = 4 → wd (x :: t) = 4 := fun h => by unfold wd; rw [h]; rfl
      split <;> omega
theorem en_bounds' (l : List Int) : ∀ p, 0 ≤ en p l ∧ en p l ≤ l.length := by
  induction l with
  | nil => intro p; simp [en]
  | cons x t ih =>
    intro p
    have := ih x
    simp only [en, List.length_cons]
    split <;> omega
/-- What the counts of runes and units of two texts are too much, behind the beginning of the first. -/
def seamR : List Int → List Int → Int × Int
  | [], _ => (0, 0)
  | x :: t, b => if t.length + 1 < lg (x :: t ++ b) then (((lg (x :: t ++ b) : Nat) : Int) - 1, ((lg (x :: t ++ b) : Nat) : Int) - (if lg (x :: t ++ b) = 4 then 2 else 1)) else seamR t b
theorem seamR_tails (t b : List Int) (h : ∀ i, i < t.length → 128 ≤ t.getD i (-1) ∧ t.getD i (-1) ≤ 191) : seamR t b = (0, 0) := by
  induction t with
  | nil => rfl
  | cons x t ih =>
    have h0 := h 0 (by simp)
    simp at h0
    rw [seamR, List.cons_append, lg_tail _ h0, if_neg (by omega)]
    exact ih (fun i hi => by have := h (i + 1) (by simp; omega); rwa [List.getD_cons_succ] at this)
theorem rf_append (a b : List Int) : rn (a ++ b) = rn a + rn b - (seamR a b).1 ∧ rn (a ++ b) + fr (a ++ b) = (rn a + fr a) + (rn b + fr b) - (seamR a b).2 := by
  induction a with
  | nil => simp [rn, fr, seamR]
  | cons x t ih =>
    obtain ⟨h1, h2⟩ := ih
    have hll := lg_len (x :: t)
    have e1 : rn (x :: t ++ b) = rho (lg (x :: t ++ b)) + rn (t ++ b) := rfl
    have e2 : fr (x :: t ++ b) = (if lg (x :: t ++ b) = 4 then 1 else 0) + fr (t ++ b) := rfl
    have e3 : rn (x :: t) = rho (lg (x :: t)) + rn t := rfl
    have e4 : fr (x :: t) = (if lg (x :: t) = 4 then 1 else 0) + fr t := rfl
    rw [seamR, e1, e2, e3, e4]
    generalize hL' : lg (x :: t ++ b) = L
    have h4 := lg_le (x :: t ++ b)
    rw [hL'] at h4
    by_cases hs : t.length + 1 < L
    · rw [if_pos hs]
      have hz : seamR t b = (0, 0) := seamR_tails t b (fun i hi => by
        have := lg_tails (x :: t ++ b) (i + 1) (by omega) (by omega)
        rwa [List.cons_append, List.getD_cons_succ, getD_app t b i hi] at this)
      have h0 : lg (x :: t) = 0 := by
        rcases Nat.eq_zero_or_pos (lg (x :: t)) with h | h
        · exact h
        · have := lg_append (x :: t) b h
          simp at hll; omega
      rw [hz] at h1 h2
      simp only at h1 h2 ⊢
      rw [h0]
      unfold rho
      rw [if_neg (by omega), if_pos (by omega)]
      refine ⟨by omega, ?_⟩
      split <;> simp <;> omega
    · rw [if_neg hs]
      have he : L = lg (x :: t) := by
        rcases Nat.eq_zero_or_pos L with h | h
        · rcases Nat.eq_zero_or_pos (lg (x :: t)) with h' | h'
          · rw [h, h']
          · have := lg_append (x :: t) b h'; omega
        · exact ((lg_of_append (x :: t) b (by omega) (by simp; simp at hL'; omega)).trans hL').symm
      subst he
      refine ⟨by omega, by omega⟩
theorem seamR_last (a b : List Int) : seamR a b = seamR (a.drop (a.length - 3)) b := by
  induction a with
  | nil => rfl
  | cons x t ih =>
    by_cases h : t.length + 1 ≤ 3
    · rw [List.length_cons, show t.length + 1 - 3 = 0 by omega, List.drop_zero]
    · have h4 := lg_le (x :: t ++ b)
      rw [seamR, if_neg (by omega), List.length_cons, show t.length + 1 - 3 = (t.length - 3) + 1 by omega, List.drop_succ_cons]
      exact ih
theorem getD_take' (b : List Int) (n k : Nat) (h : k < n) : (b.take n).getD k (-1) = b.getD k (-1) := by
  simp [List.getD, List.getElem?_take, h]
theorem getD_app2 (s b : List Int) (k : Nat) (h : s.length ≤ k) : (s ++ b).getD k (-1) = b.getD (k - s.length) (-1) := by
  simp [List.getD, List.getElem?_append_right h]
theorem lg_head (x : Int) (t b : List Int) (n : Nat) (hn : 3 ≤ n) : lg (x :: t ++ b.take n) = lg (x :: t ++ b) := by
  have hk : ∀ k, k ≤ 2 → (t ++ b.take n).getD k (-1) = (t ++ b).getD k (-1) := by
    intro k hk
    by_cases h : k < t.length
    · rw [getD_app _ _ _ h, getD_app _ _ _ h]
    · rw [getD_app2 _ _ _ (by omega), getD_app2 _ _ _ (by omega), getD_take' _ _ _ (by omega)]
  simp only [lg, List.cons_append]
  rw [hk 0 (by omega), hk 1 (by omega), hk 2 (by omega)]
theorem seamR_take (a b : List Int) : seamR a b = seamR a (b.take 3) := by
  induction a with
  | nil => rfl
  | cons x t ih => rw [seamR, seamR, lg_head x t b 3 (by omega), ih]
/-- The line end that is counted twice. -/
def seamE (a b : List Int) : Int := if a.getD (a.length - 1) (-1) = 13 ∧ b.getD 0 (-1) = 10 then 1 else 0
theorem en_key (u v : Int) (l : List Int) (h : u = 13 ↔ v = 13) : en u l = en v l := by
  cases l with
  | nil => rfl
  | cons y l => simp only [en, ne_eq, h]
theorem en_append (a b : List Int) (p : Int) : en p (a ++ b) = en p a + en (if a = [] then p else a.getD (a.length - 1) (-1)) b := by
  induction a generalizing p with
  | nil => simp [en]
  | cons x t ih =>
    simp only [List.cons_append, en]
    rw [ih x]
    have e1 : (if x :: t = [] then p else (x :: t).getD ((x :: t).length - 1) (-1)) = (if t = [] then x else t.getD (t.length - 1) (-1)) := by
      rw [if_neg (List.cons_ne_nil _ _)]
      cases t with
      | nil => simp
      | cons y t => rw [if_neg (List.cons_ne_nil _ _)]; simp
    rw [e1]
    omega
theorem en_seam (a b : List Int) : en 0 (a ++ b) = en 0 a + en 0 b - seamE a b := by
  rw [en_append]
  unfold seamE
  by_cases ha : a = []
  · subst ha; simp
  · rw [if_neg ha]
    generalize a.getD (a.length - 1) (-1) = q
    by_cases hq : q = 13
    · subst hq
      cases b with
      | nil => simp [en]
      | cons y b =>
        simp only [en, List.getD_cons_zero, true_and]
        by_cases h10 : y = 10
        · subst h10; simp; omega
        · by_cases h13 : y = 13
          · subst h13; simp
          · simp [h10, h13]
    · rw [en_key q 0 b (by omega), if_neg (fun h => hq h.1)]
      omega
theorem seamE_last (a b : List Int) : seamE a b = seamE (a.drop (a.length - 3)) (b.take 3) := by
  unfold seamE
  rw [getD_take' _ _ _ (by omega), getD_drop', List.length_drop]
  congr 3
  by_cases h : 1 ≤ a.length
  · congr 1; omega
  · have : a.length = 0 := by omega
    rw [List.length_eq_zero_iff.1 this]; rfl
theorem seamR_range (a b : List Int) : 0 ≤ (seamR a b).1 ∧ (seamR a b).1 ≤ 3 ∧ 0 ≤ (seamR a b).2 ∧ (seamR a b).2 ≤ 2 := by
  induction a with
  | nil => simp [seamR]
  | cons x t ih =>
    have h4 := lg_le (x :: t ++ b)
    rw [seamR]
    generalize lg (x :: t ++ b) = L at *
    split
    · refine ⟨?_, ?_, ?_, ?_⟩ <;> dsimp only <;> (try split) <;> omega
    · exact ih
theorem seamE_range (a b : List Int) : 0 ≤ seamE a b ∧ seamE a b ≤ 1 := by unfold seamE; split <;> omega

theorem len_le (l : List Int) (hb : Byt l) : (l.length : Int) ≤ 3 * rn l + fr l ∧ ∀ p, en p l ≤ rn l := by
  generalize hn : l.length = n
  induction n using Nat.strongRecOn generalizing l with
  | ind n ih =>
    cases l with
    | nil => simp [rn, fr, en] at *; omega
    | cons x t =>
      have hw := wd_pos (x :: t)
      have hwl := wd_le x t
      have h4 := lg_le (x :: t)
      have hx := (hb x (by simp)).1
      have hd : ((x :: t).drop (wd (x :: t))).length = n - wd (x :: t) := by rw [List.length_drop, hn]
      have h := ih (n - wd (x :: t)) (by simp at hn; omega) _ (hb.drop _) hd
      rw [rn_step, fr_step]
      refine ⟨?_, fun p => ?_⟩
      · have hh := h.1
        have hw4 : (wd (x :: t) : Int) ≤ 3 + (if lg (x :: t) = 4 then 1 else 0) := by unfold wd; split <;> split <;> omega
        omega
      · rw [en_step p x t hx]
        have hh := h.2 (ru (x :: t))
        split <;> omega

/-- May the measure be: its sizes and its ends. -/
def vldB (n r u e : Int) (H T : List Int) : Bool :=
  if n < 0 ∨ n > 268435456 ∨ (H.length : Int) ≠ min 3 n ∨ (T.length : Int) ≠ min 3 n then false
  else if n ≤ 6 then decide (H.drop (n.toNat - T.length) = T.take (H.length + T.length - n.toNat)) && decide (r = rn (H ++ T.drop (H.length + T.length - n.toNat)) ∧ u = rn (H ++ T.drop (H.length + T.length - n.toNat)) + fr (H ++ T.drop (H.length + T.length - n.toNat)) ∧ e = en 0 (H ++ T.drop (H.length + T.length - n.toNat)))
  else decide (0 ≤ r ∧ r ≤ n ∧ r ≤ u ∧ u ≤ 2 * r ∧ r - (u - r) ≤ n - 4 * (u - r) ∧ n - 4 * (u - r) ≤ 3 * (r - (u - r)) ∧ 0 ≤ e ∧ e ≤ r)
/-- A measure of bytes may be. -/
theorem vld_of (l : List Int) (hb : Byt l) (hl : l.length ≤ 268435456) : vldB l.length (rn l) (rn l + fr l) (en 0 l) (l.take 3) (l.drop (l.length - 3)) = true := by
  unfold vldB
  rw [if_neg (by simp; omega)]
  split
  · rename_i h6
    have e1 : (l.length : Int).toNat = l.length := by simp
    rw [e1]
    have hT : (l.drop (l.length - 3)).length = min 3 l.length := by rw [List.length_drop]; omega
    have hH : (l.take 3).length = min 3 l.length := by rw [List.length_take]
    rw [hT, hH]
    by_cases h3 : l.length ≤ 3
    · have q1 : l.take 3 = l := List.take_of_length_le h3
      have q2 : l.length - 3 = 0 := by omega
      have q3 : l.length - min 3 l.length = 0 := by omega
      have q4 : min 3 l.length + min 3 l.length - l.length = l.length := by omega
      rw [q2, q3, q4, q1, List.drop_zero, List.drop_length, List.append_nil, List.take_length]
      simp
    · have q3 : l.length - min 3 l.length = l.length - 3 := by omega
      have q4 : min 3 l.length + min 3 l.length - l.length = 3 - (l.length - 3) := by omega
      have q5 : (l.take 3).drop (l.length - 3) = (l.drop (l.length - 3)).take (3 - (l.length - 3)) := by rw [List.drop_take]
      have q6 : l.take 3 ++ (l.drop (l.length - 3)).drop (3 - (l.length - 3)) = l := by
        rw [List.drop_drop, show l.length - 3 + (3 - (l.length - 3)) = 3 by omega, List.take_append_drop]
      rw [q3, q4, q5, q6]
      simp
  · have h1 := rn_bounds' l
    have h2 := len_le l hb
    have h3 := h2.2 0
    have h4 := en_bounds' l 0
    rw [decide_eq_true_eq]
    omega
end Go.Proofs.YtiolhoaoepgmcaaDoor.Math
