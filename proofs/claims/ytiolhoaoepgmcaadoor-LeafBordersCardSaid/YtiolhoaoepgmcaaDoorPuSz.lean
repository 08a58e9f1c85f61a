/- What the printed functions of galleyref02 and the two Sizes say, in plain words: sums over places. Conditions: bytes, and lengths that fit. -/
import Derived.Test.YtiolhoaoepgmcaaDoorDec
import Derived.Test.YtiolhoaoepgmcaaDoorPr6
import Derived.Test.YtiolhoaoepgmcaaDoorFSizes
import Derived.Lib.RuneCountTail
namespace Go.Proofs.YtiolhoaoepgmcaaDoor.PuSz
open Go.RowKit Go.Proofs.YtiolhoaoepgmcaaDoor.Pr Go.Proofs.YtiolhoaoepgmcaaDoor.Math Go.Proofs.YtiolhoaoepgmcaaDoorW.PrintWords Go.Proofs.YtiolhoaoepgmcaaDoorW.PrintLast Go.Proofs.YtiolhoaoepgmcaaDoorW.PrintMore
set_option linter.unusedVariables false
set_option linter.unusedSimpArgs false

theorem w64 {n : Int} (h : -4611686018427387904 ≤ n) (h' : n ≤ 4611686018427387904) : wrap64 n = n := wrap64_in' (by omega) (by omega)
/-- The byte in a place, or -1. -/
def atI (l : List Int) (p : Int) : Int := if p < 0 then -1 else l.getD p.toNat (-1)
theorem rd_getD (l : List Int) (p : Int) (h : p.toNat < l.length) : rd l p = l.getD p.toNat (-1) := by simp [rd, List.getD, List.getElem?_eq_getElem h]
theorem at_eq (l : List Int) (hb : Byt l) (hl : l.length ≤ 140737488355328) (p : Int) : galleyref02_at.f l p = some (atI l p) := by
  unfold galleyref02_at.f atI
  by_cases h0 : p < 0
  · rw [if_pos h0, if_pos h0]
  · rw [if_neg h0, if_neg h0]
    by_cases h1 : p ≥ (l.length : Int)
    · rw [if_pos h1, getD_m1 l _ (by omega)]
    · rw [if_neg h1, if_pos (by omega), if_pos (by omega), rd_getD l p (by omega)]
      have := hb.getD p.toNat (by omega) (-1)
      rw [w64 (by omega) (by omega)]
theorem in_eq (a lo hi : Int) : galleyref02_in.f a lo hi = some (decide (lo ≤ a ∧ a ≤ hi)) := by
  unfold galleyref02_in.f
  by_cases h : a ≥ lo
  · rw [if_pos h]; congr 1; simp; omega
  · rw [if_neg h]; congr 1; simp; omega
theorem j2_eq (k : Nat) (x y : Int) (b : Bool) : galleyref02_Long.j2 (k + 1) x y b = some (if b = true ∧ (x = 240 ∧ (144 ≤ y ∧ y ≤ 191) ∨ (241 ≤ x ∧ x ≤ 243) ∧ (128 ≤ y ∧ y ≤ 191) ∨ x = 244 ∧ (128 ≤ y ∧ y ≤ 143)) then 4 else 0) := by
  cases b
  · simp [galleyref02_Long.j2]
  · simp only [galleyref02_Long.j2, in_eq, Option.bind_some, decide_eq_true_eq, if_true, true_and]
    (repeat' split) <;> first | rfl | (exfalso; omega)
theorem j1_eq (k : Nat) (x y z w : Int) : galleyref02_Long.j1 (k + 2) x y z w = some (if ((128 ≤ z ∧ z ≤ 191) ∧ (128 ≤ w ∧ w ≤ 191)) ∧ (x = 240 ∧ (144 ≤ y ∧ y ≤ 191) ∨ (241 ≤ x ∧ x ≤ 243) ∧ (128 ≤ y ∧ y ≤ 191) ∨ x = 244 ∧ (128 ≤ y ∧ y ≤ 143)) then 4 else 0) := by
  simp only [galleyref02_Long.j1, in_eq, Option.bind_some, decide_eq_true_eq, j2_eq]
  by_cases hz : 128 ≤ z ∧ z ≤ 191
  · rw [if_pos hz]
    by_cases hw : 128 ≤ w ∧ w ≤ 191 <;> simp [hz, hw]
  · simp [hz]
theorem j0_eq (k : Nat) (x y z w : Int) (b : Bool) (hb : b = true → (194 ≤ x ∧ x ≤ 223) ∧ (128 ≤ y ∧ y ≤ 191)) (hb' : b = false → ¬ ((194 ≤ x ∧ x ≤ 223) ∧ (128 ≤ y ∧ y ≤ 191))) (hx : ¬ (0 ≤ x ∧ x ≤ 127)) :
    galleyref02_Long.j0 (k + 3) x y z w b = some ((lgT x y z w : Nat) : Int) := by
  unfold lgT
  rw [if_neg hx]
  cases b
  · rw [if_neg (hb' rfl)]
    clear hb hb'
    simp only [galleyref02_Long.j0, in_eq, Option.bind_some, decide_eq_true_eq, j1_eq, Bool.false_eq_true, if_false]
    by_cases hz : 128 ≤ z ∧ z ≤ 191
    · by_cases c3 : (128 ≤ z ∧ z ≤ 191) ∧ (x = 224 ∧ (160 ≤ y ∧ y ≤ 191) ∨ (225 ≤ x ∧ x ≤ 236) ∧ (128 ≤ y ∧ y ≤ 191) ∨ x = 237 ∧ (128 ≤ y ∧ y ≤ 159) ∨ (238 ≤ x ∧ x ≤ 239) ∧ (128 ≤ y ∧ y ≤ 191))
      · rw [if_pos c3]
        obtain ⟨_, c⟩ := c3
        rcases c with ⟨rfl, hy⟩ | ⟨hx2, hy⟩ | ⟨rfl, hy⟩ | ⟨hx2, hy⟩
        · rw [if_pos hz, if_pos rfl, if_pos hy]; rfl
        · rw [if_pos hz, if_neg (by omega), if_pos hx2, if_pos hy]; rfl
        · rw [if_pos hz, if_neg (by decide), if_neg (by decide), if_pos rfl, if_pos hy]; rfl
        · rw [if_pos hz, if_neg (by omega), if_neg (by omega), if_neg (by omega), if_pos hx2, if_pos hy]; rfl
      · rw [if_neg c3]
        have hE : (some (((if ((128 ≤ z ∧ z ≤ 191) ∧ (128 ≤ w ∧ w ≤ 191)) ∧ (x = 240 ∧ (144 ≤ y ∧ y ≤ 191) ∨ (241 ≤ x ∧ x ≤ 243) ∧ (128 ≤ y ∧ y ≤ 191) ∨ x = 244 ∧ (128 ≤ y ∧ y ≤ 143)) then 4 else 0 : Nat) : Int)) : Option Int) = some (if ((128 ≤ z ∧ z ≤ 191) ∧ (128 ≤ w ∧ w ≤ 191)) ∧ (x = 240 ∧ (144 ≤ y ∧ y ≤ 191) ∨ (241 ≤ x ∧ x ≤ 243) ∧ (128 ≤ y ∧ y ≤ 191) ∨ x = 244 ∧ (128 ≤ y ∧ y ≤ 143)) then 4 else 0) := by split <;> rfl
        rw [hE]
        generalize (some (if ((128 ≤ z ∧ z ≤ 191) ∧ (128 ≤ w ∧ w ≤ 191)) ∧ (x = 240 ∧ (144 ≤ y ∧ y ≤ 191) ∨ (241 ≤ x ∧ x ≤ 243) ∧ (128 ≤ y ∧ y ≤ 191) ∨ x = 244 ∧ (128 ≤ y ∧ y ≤ 143)) then (4 : Int) else 0)) = E
        clear hE
        have hc : x = 224 ∨ (225 ≤ x ∧ x ≤ 236) ∨ x = 237 ∨ (238 ≤ x ∧ x ≤ 239) ∨ ¬ (224 ≤ x ∧ x ≤ 239) := by omega
        rcases hc with h | h | h | h | h
        · rw [if_pos hz, if_pos h, if_neg (by omega), if_neg (by omega), if_neg (by omega), if_neg (by omega)]
        · rw [if_pos hz, if_neg (by omega), if_pos h, if_neg (by omega), if_neg (by omega), if_neg (by omega)]
        · rw [if_pos hz, if_neg (by omega), if_neg (by omega), if_pos h, if_neg (by omega), if_neg (by omega)]
        · rw [if_pos hz, if_neg (by omega), if_neg (by omega), if_neg (by omega), if_pos h, if_neg (by omega)]
        · rw [if_pos hz, if_neg (by omega), if_neg (by omega), if_neg (by omega), if_neg (by omega)]
    · rw [if_neg hz, if_neg (fun h => hz h.1.1), if_neg (fun h => hz h.1), if_neg (fun h => hz h.1.1)]; rfl
  · rw [if_pos (hb rfl)]
    simp only [galleyref02_Long.j0, if_true]
    rfl
theorem long_eq (k : Nat) (l : List Int) (hb : Byt l) (hl : l.length ≤ 140737488355328) (p : Nat) (hp : p ≤ 140737488355328) : galleyref02_Long.f (k + 3) l p = some ((lg (l.drop p) : Nat) : Int) := by
  have hT : lg (l.drop p) = lgT (atI l p) (atI l (p + 1)) (atI l (p + 2)) (atI l (p + 3)) := by
    have a0 : ∀ k : Nat, atI l ((p : Int) + (k : Nat)) = l.getD (p + k) (-1) := fun k => by
      unfold atI; rw [if_neg (by omega)]; congr 1
    have e0 := a0 0
    have e1 := a0 1
    have e2 := a0 2
    have e3 := a0 3
    rw [Int.natCast_zero, Int.add_zero] at e0
    rw [show ((p : Int) + 1) = (p : Int) + ((1 : Nat) : Int) from rfl, show ((p : Int) + 2) = (p : Int) + ((2 : Nat) : Int) from rfl, show ((p : Int) + 3) = (p : Int) + ((3 : Nat) : Int) from rfl, e0, e1, e2, e3]
    rw [← getD_drop', ← getD_drop', ← getD_drop', ← getD_drop']
    cases l.drop p with
    | nil => rfl
    | cons x t => rfl
  unfold galleyref02_Long.f
  rw [w64 (by omega) (by omega), w64 (by omega) (by omega), w64 (by omega) (by omega)]
  simp only [at_eq l hb hl, in_eq, Option.bind_some, decide_eq_true_eq]
  rw [hT]
  generalize atI l p = x
  generalize atI l (p + 1) = y
  generalize atI l (p + 2) = z
  generalize atI l (p + 3) = w
  by_cases h1 : 0 ≤ x ∧ x ≤ 127
  · rw [if_pos h1]; unfold lgT; rw [if_pos h1]; rfl
  · rw [if_neg h1]
    by_cases h2 : 194 ≤ x ∧ x ≤ 223
    · rw [if_pos h2]
      exact j0_eq k x y z w _ (fun h => ⟨h2, by simpa using h⟩) (fun h h' => by simp [h'.2] at h) h1
    · rw [if_neg h2]
      exact j0_eq k x y z w _ (fun h => by cases h) (fun _ h' => h2 h'.1) h1

/-! ### Inside, Edges -/
theorem inside_eq (k : Nat) (l : List Int) (hb : Byt l) (hl : l.length ≤ 140737488355328) (p : Nat) (hp : p ≤ 140737488355328) : galleyref02_Inside.f (k + 7) l p = some (insB l p) := by
  have step : ∀ (k : Nat) (i : Nat), 1 ≤ i → i ≤ 3 → galleyref02_Inside.l0 (k + 4) l p i = if i ≤ p ∧ i < lg (l.drop (p - i)) then some true else galleyref02_Inside.l0 (k + 3) l p ((i + 1 : Nat) : Int) := by
    intro k i h1 h3
    rw [galleyref02_Inside.l0, if_pos (by omega), w64 (by omega) (by omega), w64 (by omega) (by omega)]
    by_cases h : i ≤ p
    · rw [if_pos (by omega), show (p : Int) - i = ((p - i : Nat) : Int) by omega, long_eq k l hb hl (p - i) (by omega)]
      simp only [Option.bind_some]
      by_cases h' : i < lg (l.drop (p - i))
      · rw [if_pos (by omega), if_pos ⟨h, h'⟩]
      · rw [if_neg (by omega), if_neg (fun c => h' c.2)]; rfl
    · rw [if_neg (by omega), if_neg (fun c => h c.1)]; rfl
  unfold galleyref02_Inside.f
  have s1 := step (k + 3) 1 (by omega) (by omega)
  have s2 := step (k + 2) 2 (by omega) (by omega)
  have s3 := step (k + 1) 3 (by omega) (by omega)
  have s4 : galleyref02_Inside.l0 (k + 4) l p ((4 : Nat) : Int) = some false := by
    simp only [galleyref02_Inside.l0]; rw [if_neg (by omega)]
  rw [show (1 : Int) = ((1 : Nat) : Int) from rfl, s1]
  unfold insB
  by_cases c1 : 1 ≤ p ∧ 1 < lg (l.drop (p - 1))
  · rw [if_pos c1]; simp [c1]
  · rw [if_neg c1, s2]
    by_cases c2 : 2 ≤ p ∧ 2 < lg (l.drop (p - 2))
    · rw [if_pos c2]; simp [c2]
    · rw [if_neg c2, s3]
      by_cases c3 : 3 ≤ p ∧ 3 < lg (l.drop (p - 3))
      · rw [if_pos c3]; simp [c3]
      · rw [if_neg c3, s4, decide_eq_false c1, decide_eq_false c2, decide_eq_false c3]; rfl
theorem edges_l0 (l : List Int) (hb : Byt l) (hl : l.length ≤ 140737488351232) (d : Nat) : ∀ (k : Nat) (acc : List Int) (p : Nat), p + d = l.length + 1 → acc.length ≤ p → acc.length + d ≤ 17592186044416 → d + 8 ≤ k →
    galleyref02_Edges.l0 k l acc p = some (acc ++ (edF l p d).map (fun q : Nat => (q : Int))) := by
  induction d with
  | zero =>
    intro k acc p hp ha hl2 hk
    obtain ⟨k, rfl⟩ : ∃ m, k = m + 1 := ⟨k - 1, by omega⟩
    rw [galleyref02_Edges.l0, if_neg (by omega)]
    simp [edF]
  | succ d ih =>
    intro k acc p hp ha hl2 hk
    obtain ⟨k, rfl⟩ : ∃ m, k = m + 8 := ⟨k - 8, by omega⟩
    rw [galleyref02_Edges.l0, if_pos (by omega), inside_eq k l hb (by omega) p (by omega)]
    simp only [Option.bind_some]
    have hw : wrap64 ((p : Int) + 1) = ((p + 1 : Nat) : Int) := by rw [w64 (by omega) (by omega)]; rfl
    cases hi : insB l p with
    | true =>
      rw [if_pos rfl, hw, ih (k + 7) acc (p + 1) (by omega) (by omega) (by omega) (by omega)]
      congr 2
      unfold edF
      rw [List.range'_succ, List.filter_cons, hi]
      simp
    | false =>
      rw [if_neg (by decide), if_pos (by omega), hw, ih (k + 7) (acc ++ [(p : Int)]) (p + 1) (by omega) (by simp; omega) (by simp; omega) (by omega)]
      congr 1
      unfold edF
      rw [List.range'_succ, List.filter_cons, hi]
      simp
/-- The edges that are places of bytes, and the end. -/
theorem edF_last (l : List Int) (p : Nat) (hp : p ≤ l.length) : edF l p (l.length + 1 - p) = edF l p (l.length - p) ++ [l.length] := by
  unfold edF
  rw [show l.length + 1 - p = (l.length - p) + 1 by omega, ← List.range'_append_1, List.filter_append, show p + (l.length - p) = l.length by omega]
  simp [List.range'_succ, ins_end]
theorem edges_eq (k : Nat) (l : List Int) (hb : Byt l) (hl : l.length ≤ 4294967296) (hk : l.length + 9 ≤ k) : galleyref02_Edges.f k l = some ((edF l 0 l.length ++ [l.length]).map (fun q : Nat => (q : Int))) := by
  unfold galleyref02_Edges.f
  have := edges_l0 l hb (by omega) (l.length + 1) k [] 0 (by omega) (by simp) (by simp; omega) (by omega)
  rw [Int.natCast_zero] at this
  have e := edF_last l 0 (by omega)
  rw [Nat.sub_zero, Nat.sub_zero] at e
  rw [this, e]
  rfl

/-! ### Of -/
theorem of_j0 (k : Nat) (x0 : List Int) (x1 x5 x6 : Int) : galleyref02_Of.j0 (k + 1) x0 x1 x5 x6 = galleyref02_Of.l0 k x0 x1 x5 x6 1 := by simp only [galleyref02_Of.j0]
theorem of_end (k : Nat) (x0 : List Int) (x1 x5 x6 x7 : Int) (h : ¬ x7 < x5) : galleyref02_Of.l0 (k + 1) x0 x1 x5 x6 x7 = some (wrap32 x6, x5, true) := by
  simp only [galleyref02_Of.l0]; rw [if_neg h]
theorem of_next (k : Nat) (l : List Int) (hb : Byt l) (p i n : Nat) (r : Int) (hr : 0 ≤ r ∧ r ≤ 2147483647) (hp : p + i < l.length) (hl : l.length ≤ 4294967296) (hi : i < n) (hn : n ≤ 4) :
    galleyref02_Of.l0 (k + 1) l p n r i = galleyref02_Of.l0 k l p n (r * 64 + (l.getD (p + i) (-1)) % 64) ((i + 1 : Nat) : Int) := by
  have hg := hb.getD (p + i) hp (-1)
  simp only [galleyref02_Of.l0]
  have e : ((p : Int) + (i : Int)) = ((p + i : Nat) : Int) := by omega
  rw [if_pos (by omega), e, w64 (by omega) (by omega), if_pos (by omega), if_pos (by omega), rd_getD l _ (by omega)]
  simp only [Int.toNat_natCast]
  have hm : Int.tmod (l.getD (p + i) (-1)) 64 = l.getD (p + i) (-1) % 64 := Int.tmod_eq_emod_of_nonneg hg.1
  rw [w64 (n := l.getD (p + i) (-1)) (by omega) (by omega), hm, w64 (n := r * 64) (by omega) (by omega), w64 (by omega) (by omega), w64 (n := (i : Int) + 1) (by omega) (by omega)]
  rfl
theorem of_eq (k : Nat) (l : List Int) (hb : Byt l) (hl : l.length ≤ 4294967296) (p : Nat) (hp : p < l.length) : galleyref02_Of.f (k + 7) l p = some (ru (l.drop p), ((wd (l.drop p) : Nat) : Int), decide (lg (l.drop p) ≠ 0)) := by
  have h4 := lg_le (l.drop p)
  have hll := lg_len (l.drop p)
  have hu := ru_facts
  unfold galleyref02_Of.f
  rw [long_eq (k + 4) l hb (by omega) p (by omega)]
  simp only [Option.bind_some]
  obtain ⟨x, t, hxt⟩ : ∃ x t, l.drop p = x :: t := by
    cases h : l.drop p with
    | nil => have := congrArg List.length h; simp at this; omega
    | cons x t => exact ⟨x, t, rfl⟩
  have hx : x = l.getD p (-1) := by
    have := getD_drop' l p 0 (-1)
    rw [hxt] at this
    simpa using this
  have g0 := hb.getD p hp (-1)
  have hr := ru_facts x t (by omega)
  have gk : ∀ i, (x :: t).getD i (-1) = l.getD (p + i) (-1) := fun i => by rw [← hxt, getD_drop']
  rw [hxt] at h4 hll ⊢
  have hlt : (x :: t).length = l.length - p := by have := congrArg List.length hxt; simp at this; simp; omega
  have hrd : rd l p = l.getD p (-1) := by rw [rd_getD l p (by simpa using hp)]; simp
  have hc : lg (x :: t) = 0 ∨ lg (x :: t) = 1 ∨ lg (x :: t) = 2 ∨ lg (x :: t) = 3 ∨ lg (x :: t) = 4 := by omega
  rcases hc with e | e | e | e | e
  · rw [e, if_pos (by rfl)]; simp [ru, wd, e]
  · rw [e, if_neg (by decide), if_pos (by omega), if_pos (by omega), if_neg (by decide), if_neg (by decide), if_neg (by decide), of_j0, hrd, of_end _ _ _ _ _ _ (by decide), w64 (by omega) (by omega)]
    simp only [ru, wd, e, List.take_succ_cons, List.take_zero, num]
    rw [wrap32_in' (by omega) (by omega), hx]
    rfl
  · rw [e] at hll
    rw [e, if_neg (by decide), if_pos (by omega), if_pos (by omega), if_pos (by decide), of_j0, hrd]
    have m0 : Int.tmod (wrap64 (l.getD p (-1))) 32 = l.getD p (-1) % 32 := by rw [w64 (by omega) (by omega)]; exact Int.tmod_eq_emod_of_nonneg g0.1
    have g1 := hb.getD (p + 1) (by omega) (-1)
    rw [m0, show ((1 : Int)) = ((1 : Nat) : Int) from rfl, of_next _ l hb p 1 2 _ (by omega) (by omega) hl (by omega) (by omega), of_end _ _ _ _ _ _ (by decide)]
    have := gk 1
    match t, hll, this with
    | y :: t', _, this =>
      simp only [List.getD_cons_succ, List.getD_cons_zero] at this
      simp only [ru, wd, e, List.take_succ_cons, List.take_zero, num] at hr ⊢
      rw [wrap32_in' (by omega) (by omega), hx, this]
      rfl
    | [], hll, _ => simp at hll
  · rw [e] at hll
    rw [e, if_neg (by decide), if_pos (by omega), if_pos (by omega), if_neg (by decide), if_pos (by decide), of_j0, hrd]
    have m0 : Int.tmod (wrap64 (l.getD p (-1))) 16 = l.getD p (-1) % 16 := by rw [w64 (by omega) (by omega)]; exact Int.tmod_eq_emod_of_nonneg g0.1
    have g1 := hb.getD (p + 1) (by omega) (-1)
    have g2 := hb.getD (p + 2) (by omega) (-1)
    rw [m0, show ((1 : Int)) = ((1 : Nat) : Int) from rfl, of_next _ l hb p 1 3 _ (by omega) (by omega) hl (by omega) (by omega), of_next _ l hb p 2 3 _ (by omega) (by omega) hl (by omega) (by omega), of_end _ _ _ _ _ _ (by decide)]
    have e1 := gk 1
    have e2 := gk 2
    match t, hll, e1, e2 with
    | y :: z :: t', _, e1, e2 =>
      simp only [List.getD_cons_succ, List.getD_cons_zero] at e1 e2
      simp only [ru, wd, e, List.take_succ_cons, List.take_zero, num] at hr ⊢
      rw [wrap32_in' (by omega) (by omega), hx, e1, e2]
      rfl
    | [_], hll, _, _ => simp at hll
    | [], hll, _, _ => simp at hll
  · rw [e] at hll
    rw [e, if_neg (by decide), if_pos (by omega), if_pos (by omega), if_neg (by decide), if_neg (by decide), if_pos (by decide), of_j0, hrd]
    have m0 : Int.tmod (wrap64 (l.getD p (-1))) 8 = l.getD p (-1) % 8 := by rw [w64 (by omega) (by omega)]; exact Int.tmod_eq_emod_of_nonneg g0.1
    have g1 := hb.getD (p + 1) (by omega) (-1)
    have g2 := hb.getD (p + 2) (by omega) (-1)
    have g3 := hb.getD (p + 3) (by omega) (-1)
    rw [m0, show ((1 : Int)) = ((1 : Nat) : Int) from rfl, of_next _ l hb p 1 4 _ (by omega) (by omega) hl (by omega) (by omega), of_next _ l hb p 2 4 _ (by omega) (by omega) hl (by omega) (by omega), of_next _ l hb p 3 4 _ (by omega) (by omega) hl (by omega) (by omega), of_end _ _ _ _ _ _ (by decide)]
    have e1 := gk 1
    have e2 := gk 2
    have e3 := gk 3
    match t, hll, e1, e2, e3 with
    | y :: z :: w :: t', _, e1, e2, e3 =>
      simp only [List.getD_cons_succ, List.getD_cons_zero] at e1 e2 e3
      simp only [ru, wd, e, List.take_succ_cons, List.take_zero, num] at hr ⊢
      rw [wrap32_in' (by omega) (by omega), hx, e1, e2, e3]
      rfl
    | [_, _], hll, _, _, _ => simp at hll
    | [_], hll, _, _, _ => simp at hll
    | [], hll, _, _, _ => simp at hll

/-! ### Steps, and the two Sizes -/
def stp (l : List Int) (p : Nat) : S61 := ⟨ru (l.drop p), ((wd (l.drop p) : Nat) : Int), decide (lg (l.drop p) ≠ 0)⟩
theorem steps_l0 (l : List Int) (hb : Byt l) (hl : l.length ≤ 4294967296) (E : List Nat) (hE : ∀ p ∈ E, p < l.length) (e : List Int) (he : e = (E ++ [l.length]).map (fun q : Nat => (q : Int))) (hlen : E.length ≤ l.length) (d : Nat) :
    ∀ (k : Nat) (acc : List S61) (i : Nat), i + d = E.length → acc.length = i → d + 8 ≤ k → galleyref02_Steps.l0 k l acc e i = some (acc ++ (E.drop i).map (stp l)) := by
  subst he
  have hel : ((E ++ [l.length]).map (fun q : Nat => (q : Int))).length = E.length + 1 := by simp
  induction d with
  | zero =>
    intro k acc i hi ha hk
    obtain ⟨k, rfl⟩ : ∃ m, k = m + 1 := ⟨k - 1, by omega⟩
    rw [galleyref02_Steps.l0, w64 (by omega) (by omega), if_neg (by omega), List.drop_of_length_le (by omega)]
    simp
  | succ d ih =>
    intro k acc i hi ha hk
    obtain ⟨k, rfl⟩ : ∃ m, k = m + 8 := ⟨k - 8, by omega⟩
    rw [galleyref02_Steps.l0, w64 (by omega) (by omega), if_pos (by omega), if_pos (by omega), if_pos (by omega)]
    have hiE : i < E.length := by omega
    have hr : rd ((E ++ [l.length]).map (fun q : Nat => (q : Int))) (i : Int) = ((E[i]'hiE : Nat) : Int) := by
      rw [rd_getD _ _ (by omega)]
      simp only [Int.toNat_natCast]
      rw [List.map_append, getD_app _ _ _ (by simpa using hiE)]
      simp [List.getD, List.getElem?_eq_getElem hiE]
    rw [hr, of_eq k l hb hl _ (hE _ (List.getElem_mem _))]
    simp only [Option.bind_some]
    rw [if_pos (by omega), show (i : Int) + 1 = ((i + 1 : Nat) : Int) from rfl, ih (k + 7) _ (i + 1) (by omega) (by simp; omega) (by omega)]
    rw [List.drop_eq_getElem_cons hiE, List.map_cons]
    simp only [List.append_assoc, List.cons_append, List.nil_append]
    rfl
theorem edF_lt (l : List Int) (p n : Nat) (q : Nat) (h : q ∈ edF l p n) : q < p + n := by
  unfold edF at h
  have := (List.mem_filter.1 h).1
  rw [List.mem_range'_1] at this
  exact this.2
theorem edF_length (l : List Int) (p n : Nat) : (edF l p n).length ≤ n := by
  unfold edF
  exact Nat.le_trans (List.length_filter_le _ _) (by simp)
theorem steps_eq (k : Nat) (l : List Int) (hb : Byt l) (hl : l.length ≤ 4294967296) (hk : l.length + 9 ≤ k) : galleyref02_Steps.f k l = some ((edF l 0 l.length).map (stp l)) := by
  unfold galleyref02_Steps.f
  rw [edges_eq k l hb hl hk]
  simp only [Option.bind_some]
  have hn := edF_length l 0 l.length
  have := steps_l0 l hb hl (edF l 0 l.length) (fun p hp => by have := edF_lt l 0 l.length p hp; omega) _ rfl hn (edF l 0 l.length).length k [] 0 (by omega) rfl (by omega)
  rw [Int.natCast_zero] at this
  rw [this]
  rfl

theorem rn_bounds (l : List Int) : 0 ≤ fr l ∧ 0 ≤ rn l ∧ rn l ≤ l.length ∧ fr l ≤ rn l ∧ rn l + 3 * fr l ≤ l.length := by
  generalize hn : l.length = n
  induction n using Nat.strongRecOn generalizing l with
  | ind n ih =>
    cases l with
    | nil => simp [rn, fr]
    | cons x t =>
      have hw := wd_pos (x :: t)
      have hwl := wd_le x t
      have hd : ((x :: t).drop (wd (x :: t))).length = n - wd (x :: t) := by rw [List.length_drop, hn]
      have h := ih (n - wd (x :: t)) (by simp at hn; omega) _ hd
      rw [rn_step, fr_step]
      have hw4 : lg (x :: t) = 4 → wd (x :: t) = 4 := fun h => by unfold wd; rw [h]; rfl
      split <;> omega
theorem en_bounds (l : List Int) : ∀ p, 0 ≤ en p l ∧ en p l ≤ l.length := by
  induction l with
  | nil => intro p; simp [en]
  | cons x t ih =>
    intro p
    have := ih x
    simp only [en, List.length_cons]
    split <;> omega
theorem units_eq (l : List Int) (p : Nat) (hp : p < l.length) (hb : Byt l) (c : Bool) : galleyref05_units.f (ru (l.drop p)) ((wd (l.drop p) : Nat) : Int) c = some (if lg (l.drop p) = 4 then 2 else 1) := by
  obtain ⟨x, t, hxt⟩ : ∃ x t, l.drop p = x :: t := by
    cases h : l.drop p with
    | nil => have := congrArg List.length h; simp at this; omega
    | cons x t => exact ⟨x, t, rfl⟩
  have h0 : 0 ≤ x := (hb.drop p x (by rw [hxt]; simp)).1
  have := (ru_facts x t h0).2.2.1
  unfold galleyref05_units.f
  rw [hxt]
  by_cases h : lg (x :: t) = 4
  · rw [if_pos (this.2 h), if_pos h]
  · rw [if_neg (fun c => h (this.1 c)), if_neg h]
/-- The counts over the edges from an edge on. -/
theorem count_edges (l : List Int) (n : Nat) : ∀ p, l.length - p = n → p ≤ l.length → insB l p = false →
    (((edF l p (l.length - p)).length : Nat) : Int) = rn (l.drop p) ∧ ((edF l p (l.length - p)).map (fun q => if lg (l.drop q) = 4 then (2 : Int) else 1)).sum = rn (l.drop p) + fr (l.drop p) := by
  induction n using Nat.strongRecOn with
  | ind n ih =>
    intro p hn hp he
    by_cases hlt : p < l.length
    · have hs := ins_step l p he
      have hw := wd_pos (l.drop p)
      have hwl : p + wd (l.drop p) ≤ l.length := by
        have := lg_len (l.drop p); simp at this
        unfold wd; split <;> omega
      have h := ih (l.length - (p + wd (l.drop p))) (by omega) (p + wd (l.drop p)) rfl hwl hs.2
      rw [edF_step l p hlt he]
      obtain ⟨x, t, hxt⟩ : ∃ x t, l.drop p = x :: t := by
        cases h : l.drop p with
        | nil => have := congrArg List.length h; simp at this; omega
        | cons x t => exact ⟨x, t, rfl⟩
      have hdd : l.drop (p + wd (l.drop p)) = (x :: t).drop (wd (x :: t)) := by rw [← hxt, List.drop_drop]
      rw [hdd] at h
      rw [List.length_cons, List.map_cons, List.sum_cons, h.2]
      rw [hxt] at h ⊢
      rw [rn_step, fr_step]
      refine ⟨by omega, ?_⟩
      split <;> omega
    · have : p = l.length := by omega
      subst this
      simp [edF, rn, fr]

theorem rd_T_at (L : List S61) (i : Nat) (h : i < L.length) : rd_T61 L (i : Int) = L[i] := by
  simp [rd_T61, rdOf, List.getD, List.getElem?_eq_getElem h]
/-- The loop over the steps. -/
theorem sizes_l0_end (l : List Int) (S : List S61) (z0 z1 z2 z3 : Int) (k : Nat) (i : Nat) (h : S.length ≤ i) : galleyref05_Sizes.l0 (k + 1) l S i z0 z1 z2 z3 = galleyref05_Sizes.l1 k l 0 z0 z1 z2 z3 := by
  rw [galleyref05_Sizes.l0, if_neg (by omega)]
theorem sizes_l0_next (l : List Int) (hb : Byt l) (S : List S61) (z0 z1 z2 z3 : Int) (k : Nat) (i : Nat) (h : i < S.length) (q : Nat) (hq : q < l.length) (hS : S[i] = stp l q) (hl : S.length ≤ 4294967296) (h1 : 0 ≤ z1 ∧ z1 ≤ 4294967296) (h2 : 0 ≤ z2 ∧ z2 ≤ 8589934592) :
    galleyref05_Sizes.l0 (k + 1) l S i z0 z1 z2 z3 = galleyref05_Sizes.l0 k l S ((i + 1 : Nat) : Int) z0 (z1 + 1) (z2 + if lg (l.drop q) = 4 then 2 else 1) z3 := by
  have hu : (if lg (l.drop q) = 4 then (2 : Int) else 1) = 2 ∨ (if lg (l.drop q) = 4 then (2 : Int) else 1) = 1 := by split <;> simp
  rw [galleyref05_Sizes.l0, if_pos (by omega), if_pos (by omega), rd_T_at _ i h, hS]
  have hun := units_eq l q hq hb (decide (lg (l.drop q) ≠ 0))
  have e : galleyref05_units.f (stp l q).f0 (stp l q).f1 (stp l q).f2 = some (if lg (l.drop q) = 4 then 2 else 1) := hun
  rw [e, Option.bind_some, w64 (n := (i : Int) + 1) (by omega) (by omega), w64 (n := z1 + 1) (by omega) (by omega), w64 (by omega) (by omega)]
  rfl
theorem sizes_l0 (l : List Int) (hb : Byt l) (hl : l.length ≤ 4294967296) (E : List Nat) (hE : ∀ p ∈ E, p < l.length) (hlen : E.length ≤ l.length) (z0 z3 : Int) (d : Nat) :
    ∀ (k : Nat) (i : Nat) (z1 z2 : Int), i + d = E.length → z1 = i → 0 ≤ z2 → z2 ≤ 2 * i → galleyref05_Sizes.l0 (k + d + 1) l (E.map (stp l)) i z0 z1 z2 z3 =
      galleyref05_Sizes.l1 k l 0 z0 (E.length : Int) (z2 + ((E.drop i).map (fun q => if lg (l.drop q) = 4 then (2 : Int) else 1)).sum) z3 := by
  induction d with
  | zero =>
    intro k i z1 z2 hi h1 h2 h3
    have hz : z1 = (E.length : Int) := by omega
    rw [List.drop_of_length_le (by omega), hz]
    rw [show k + 0 + 1 = k + 1 from rfl, sizes_l0_end l _ _ _ _ _ k i (by rw [List.length_map]; omega)]
    simp
  | succ d ih =>
    intro k i z1 z2 hi h1 h2 h3
    have hiE : i < E.length := by omega
    have hu : (if lg (l.drop E[i]) = 4 then (2 : Int) else 1) = 2 ∨ (if lg (l.drop E[i]) = 4 then (2 : Int) else 1) = 1 := by split <;> simp
    have hn := sizes_l0_next l hb (E.map (stp l)) z0 z1 z2 z3 (k + d + 1) i (by rw [List.length_map]; exact hiE) E[i] (hE _ (List.getElem_mem _)) (by simp) (by rw [List.length_map]; omega) (by omega) (by omega)
    have hi2 := ih k (i + 1) (z1 + 1) (z2 + if lg (l.drop E[i]) = 4 then 2 else 1) (by omega) (by omega) (by omega) (by omega)
    rw [show k + (d + 1) + 1 = k + d + 1 + 1 from rfl, hn, hi2, List.drop_eq_getElem_cons hiE, List.map_cons, List.sum_cons, Int.add_assoc]
/-- The loop over the bytes: line ends. -/
theorem sizes_l1 (l : List Int) (hb : Byt l) (hl : l.length ≤ 4294967296) (z0 z1 z2 : Int) (d : Nat) :
    ∀ (k : Nat) (i : Nat) (z3 : Int), i + d = l.length → 0 ≤ z3 → z3 ≤ i → galleyref05_Sizes.l1 (k + d + 1) l i z0 z1 z2 z3 = some (z0, z1, z2, z3 + en (if i = 0 then 0 else l.getD (i - 1) (-1)) (l.drop i)) := by
  induction d with
  | zero =>
    intro k i z3 hi h1 h2
    rw [galleyref05_Sizes.l1, if_neg (by omega), List.drop_of_length_le (by omega)]
    simp [en]
  | succ d ih =>
    intro k i z3 hi h1 h2
    have hil : i < l.length := by omega
    have hg : l.drop i = l.getD i (-1) :: l.drop (i + 1) := by
      rw [List.drop_eq_getElem_cons hil]
      simp [List.getD, List.getElem?_eq_getElem hil]
    have s1 : wrap64 ((i : Int) + 1) = ((i + 1 : Nat) : Int) := by rw [w64 (by omega) (by omega)]; rfl
    have s3 : wrap64 (z3 + 1) = z3 + 1 := w64 (by omega) (by omega)
    have i1 := ih k (i + 1) (z3 + 1) (by omega) (by omega) (by omega)
    have i0 := ih k (i + 1) z3 (by omega) (by omega) (by omega)
    rw [if_neg (by omega), Nat.add_sub_cancel] at i1 i0
    rw [← Nat.add_assoc k d 1, galleyref05_Sizes.l1, if_pos (by omega), if_pos (by omega), rd_getD l _ (by simpa using hil), s1, s3, hg]
    simp only [Int.toNat_natCast, en]
    by_cases h10 : l.getD i (-1) = 10
    · rw [if_pos h10]
      by_cases hz : i = 0
      · subst hz
        rw [if_pos rfl, i1, if_pos (Or.inr ⟨h10, by decide⟩)]
        simp; omega
      · have sp : wrap64 ((i : Int) - 1) = ((i - 1 : Nat) : Int) := by rw [w64 (by omega) (by omega)]; omega
        rw [if_neg (by omega), sp, if_pos (by omega), if_pos (by omega), rd_getD l _ (by simp; omega), Int.toNat_natCast, if_neg hz]
        by_cases h13 : l.getD (i - 1) (-1) = 13
        · rw [if_pos h13, if_neg (by omega), i0, if_neg (by omega)]; simp
        · rw [if_neg h13, i1, if_pos (Or.inr ⟨h10, h13⟩)]; simp; omega
    · rw [if_neg h10]
      by_cases h13 : l.getD i (-1) = 13
      · rw [if_pos h13, i1, if_pos (Or.inl h13)]; simp; omega
      · rw [if_neg h13, i0, if_neg (by omega)]; simp
/-- What Sizes says: as sums over places. -/
theorem refSizes_eq (k : Nat) (l : List Int) (hb : Byt l) (hl : l.length ≤ 4294967296) (hk : 2 * l.length + 12 ≤ k) : galleyref05_Sizes.f k l = some ((l.length : Int), rn l, rn l + fr l, en 0 l) := by
  unfold galleyref05_Sizes.f
  rw [steps_eq k l hb hl (by omega)]
  simp only [Option.bind_some]
  have hn := edF_length l 0 l.length
  have hc := count_edges l (l.length - 0) 0 rfl (by omega) (insB_zero l)
  rw [Nat.sub_zero, List.drop_zero] at hc
  have hs := sizes_l0 l hb hl (edF l 0 l.length) (fun p hp => by have := edF_lt l 0 l.length p hp; omega) hn (l.length : Int) 0 (edF l 0 l.length).length (k - (edF l 0 l.length).length - 1) 0 0 0 (by omega) rfl (by omega) (by omega)
  rw [show k - (edF l 0 l.length).length - 1 + (edF l 0 l.length).length + 1 = k by omega, Int.natCast_zero, List.drop_zero, hc.2, hc.1] at hs
  rw [hs]
  have h1 := sizes_l1 l hb hl (l.length : Int) (rn l) (0 + (rn l + fr l)) l.length (k - (edF l 0 l.length).length - 1 - l.length - 1) 0 0 (by omega) (by omega) (by omega)
  rw [show k - (edF l 0 l.length).length - 1 - l.length - 1 + l.length + 1 = k - (edF l 0 l.length).length - 1 by omega, Int.natCast_zero, List.drop_zero, if_pos rfl, Int.zero_add, Int.zero_add] at h1
  rw [Int.zero_add, h1]

/-! ### The program's own Sizes -/
theorem stepF_eq (l : List Int) (hb : Byt l) (p : Nat) (hp : p < l.length) : (stepF ((strOfNums l).extract p (strOfNums l).size)).1 = ru (l.drop p) := by
  have hd : (Utf8.decode ((strOfNums l).extract p (strOfNums l).size) 0).1 = (Utf8.decode (strOfNums l) p).1 := by
    rw [Lib.tail_decode, Nat.add_zero]
  have he := (decode_eq l hb p hp).1
  unfold stepF
  rw [hd, ← he]
  split
  · rename_i h; rw [h.1]; rfl
  · rfl
theorem szAll_eq (l : List Int) (hb : Byt l) (hl : l.length ≤ 4294967296) (fuel : Nat) : ∀ (p : Nat) (z : Int × Int × Int × Int), p ≤ l.length → l.length ≤ p + fuel → 0 ≤ z.1 → z.1 ≤ p → 0 ≤ z.2.1 → z.2.1 ≤ 2 * p → 0 ≤ z.2.2.1 → z.2.2.1 ≤ p →
    ((stepsN (strOfNums l) fuel p).foldl szStep z).1 = z.1 + rn (l.drop p) ∧ ((stepsN (strOfNums l) fuel p).foldl szStep z).2.1 = z.2.1 + (rn (l.drop p) + fr (l.drop p)) ∧ ((stepsN (strOfNums l) fuel p).foldl szStep z).2.2.1 = z.2.2.1 + en z.2.2.2 (l.drop p) := by
  have hsz : (strOfNums l).size = l.length := by
    show (strOfNums l).data.size = _
    rw [← Array.length_toList, strOfNums_data, List.length_map]
  induction fuel with
  | zero =>
    intro p z hp hf _ _ _ _ _ _
    have : p = l.length := by omega
    subst this
    simp [stepsN, rn, fr, en]
  | succ fuel ih =>
    intro p z hp hf h1 h2 h3 h4 h5 h6
    by_cases hlt : p < l.length
    · have hd := decode_eq l hb p hlt
      have hw := wd_pos (l.drop p)
      have hwl : p + wd (l.drop p) ≤ l.length := by
        have := lg_len (l.drop p); simp at this
        unfold wd; split <;> omega
      obtain ⟨x, t, hxt⟩ : ∃ x t, l.drop p = x :: t := by
        cases h : l.drop p with
        | nil => have := congrArg List.length h; simp at this; omega
        | cons x t => exact ⟨x, t, rfl⟩
      have h0 : 0 ≤ x := (hb.drop p x (by rw [hxt]; simp)).1
      have hr := ru_facts x t h0
      have hdd : l.drop (p + wd (l.drop p)) = (x :: t).drop (wd (x :: t)) := by rw [← hxt, List.drop_drop]
      rw [stepsN, if_pos (by rw [hsz]; exact hlt), List.foldl_cons, hd.2]
      have hun : unitsN (ru (l.drop p)) = if lg (x :: t) = 4 then 2 else 1 := by
        unfold unitsN
        rw [hxt]
        by_cases h : lg (x :: t) = 4
        · rw [if_pos (hr.2.2.1.2 h), if_pos h]
        · rw [if_neg (fun c => h (hr.2.2.1.1 c)), if_neg h]
      have hu : (if lg (x :: t) = 4 then (2 : Int) else 1) = 2 ∨ (if lg (x :: t) = 4 then (2 : Int) else 1) = 1 := by split <;> simp
      have hst : szStep z (p, stepF ((strOfNums l).extract p (strOfNums l).size)) = (z.1 + 1, z.2.1 + (if lg (x :: t) = 4 then 2 else 1), z.2.2.1 + (if ru (x :: t) = 13 ∨ (ru (x :: t) = 10 ∧ z.2.2.2 ≠ 13) then 1 else 0), ru (x :: t)) := by
        unfold szStep
        simp only [stepF_eq l hb p hlt]
        rw [hun, w64 (by omega) (by omega), w64 (by omega) (by omega), w64 (by omega) (by omega), hxt]
        congr 3
        split <;> simp
      have hen : (if ru (x :: t) = 13 ∨ (ru (x :: t) = 10 ∧ z.2.2.2 ≠ 13) then (1 : Int) else 0) = 1 ∨ (if ru (x :: t) = 13 ∨ (ru (x :: t) = 10 ∧ z.2.2.2 ≠ 13) then (1 : Int) else 0) = 0 := by split <;> simp
      rw [hst]
      have hi := ih (p + wd (l.drop p)) (z.1 + 1, z.2.1 + (if lg (x :: t) = 4 then 2 else 1), z.2.2.1 + (if ru (x :: t) = 13 ∨ (ru (x :: t) = 10 ∧ z.2.2.2 ≠ 13) then 1 else 0), ru (x :: t)) hwl (by omega)
        (by show 0 ≤ z.1 + 1; omega) (by show z.1 + 1 ≤ ((p + wd (l.drop p) : Nat) : Int); omega) (by show 0 ≤ z.2.1 + _; omega) (by show z.2.1 + _ ≤ 2 * ((p + wd (l.drop p) : Nat) : Int); omega) (by show 0 ≤ z.2.2.1 + _; omega) (by show z.2.2.1 + _ ≤ ((p + wd (l.drop p) : Nat) : Int); omega)
      obtain ⟨i1, i2, i3⟩ := hi
      refine ⟨i1.trans ?_, i2.trans ?_, i3.trans ?_⟩
      · rw [hdd, hxt, rn_step]; show z.1 + 1 + _ = _; omega
      · rw [hdd, hxt, rn_step, fr_step]
        show z.2.1 + _ + _ = _
        have : (if lg (x :: t) = 4 then (2 : Int) else 1) = 1 + (if lg (x :: t) = 4 then 1 else 0) := by split <;> rfl
        omega
      · rw [hdd, hxt, en_step _ _ _ h0]; show z.2.2.1 + _ + en (ru (x :: t)) _ = _; omega
    · have : p = l.length := by omega
      subst this
      rw [stepsN, if_neg (by rw [hsz]; exact hlt)]
      simp [rn, fr, en]
theorem weldSizes_eq (l : List Int) (hb : Byt l) (hl : l.length ≤ 4294967296) : weld_Sizes.f l = some ((l.length : Int), rn l, rn l + fr l, en 0 l) := by
  have hsz : (strOfNums l).size = l.length := by
    show (strOfNums l).data.size = _
    rw [← Array.length_toList, strOfNums_data, List.length_map]
  have h := szAll_eq l hb hl (strOfNums l).size 0 (0, 0, 0, 0) (by omega) (by rw [hsz]; omega) (by decide) (by decide) (by decide) (by decide) (by decide) (by decide)
  rw [List.drop_zero] at h
  unfold weld_Sizes.f szAll
  rw [h.1, h.2.1, h.2.2]
  simp
end Go.Proofs.YtiolhoaoepgmcaaDoor.PuSz
