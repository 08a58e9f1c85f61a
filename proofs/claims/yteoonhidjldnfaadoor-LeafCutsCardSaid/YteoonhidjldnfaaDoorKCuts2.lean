/- Part 2 of the lemmas on which the card leafCuts_card stands (its sentence and conditions stand in the last text). Conditions: as each lemma says. -/
import Derived.Test.YteoonhidjldnfaaDoorKCuts1
import Derived.Lib.RuneCountTail
import Derived.Lib.Strings
import Derived.Lib.SmallJoins
import Derived.Lib.ConvBytes
import Derived.Lib.Hide
import Derived.Outline
import Derived.WalkSpells
import Derived.Deep.RegionHeld3
import Derived.Deep.DrawnRows
import Derived.Lib.SlBytesConst
import Derived.Deep.QuietTactic
import Derived.BigQuiet
namespace Go.Proofs.YteoonhidjldnfaaDoor.PuSz
open Go.RowKit Go.Proofs.YteoonhidjldnfaaDoor.Pr Go.Proofs.YteoonhidjldnfaaDoor.Math Go.Proofs.YteoonhidjldnfaaDoorW.PrintWords Go.Proofs.YteoonhidjldnfaaDoorW.PrintLast Go.Proofs.YteoonhidjldnfaaDoorW.PrintMore
set_option linter.unusedVariables false
set_option linter.unusedSimpArgs false
theorem w64 {n : Int} (h : -4611686018427387904 ≤ n) (h' : n ≤ 4611686018427387904) : wrap64 n = n := wrap64_in' (by omega) (by omega)
def atI (l : List Int) (p : Int) : Int := if p < 0 then -1 else l.getD p.toNat (-1)
theorem rd_getD (l : List Int) (p : Int) (h : p.toNat < l.length) : rd l p = l.getD p.toNat (-1) := by simp [rd, List.getD, List.getElem?_eq_getElem h]
theorem at_eq (l : List Int) (hb : Byt l) (hl : l.length ≤ 140737488355328) (p : Int) : galleyref02_at.f l p = some (atI l p) := by
  unfold galleyref02_at.f atI
  by_cases h0 : p < 0
  · rw [if_pos h0, if_pos h0]
  · rw [if_neg h0, if_neg h0]
    by_cases h1 : p ≥ (l.length : Int)
    · rw [if_pos h1, getD_m1 l _ (by omega)]
    · rw [if_neg h1, if_pos (by omega), if_pos (by omega), rd_getD l p (by omega)]
      have := hb.getD p.toNat (by omega) (-1)
      rw [w64 (by omega) (by omega)]
theorem in_eq (a lo hi : Int) : galleyref02_in.f a lo hi = some (decide (lo ≤ a ∧ a ≤ hi)) := by
  unfold galleyref02_in.f
  by_cases h : a ≥ lo
  · rw [if_pos h]; congr 1; simp; omega
  · rw [if_neg h]; congr 1; simp; omega
theorem j2_eq (k : Nat) (x y : Int) (b : Bool) : galleyref02_Long.j2 (k + 1) x y b = some (if b = true ∧ (x = 240 ∧ (144 ≤ y ∧ y ≤ 191) ∨ (241 ≤ x ∧ x ≤ 243) ∧ (128 ≤ y ∧ y ≤ 191) ∨ x = 244 ∧ (128 ≤ y ∧ y ≤ 143)) then 4 else 0) := by
  cases b
  · simp [galleyref02_Long.j2]
  · simp only [galleyref02_Long.j2, in_eq, Option.bind_some, decide_eq_true_eq, if_true, true_and]
    (repeat' split) <;> first | rfl | (exfalso; omega)
theorem j1_eq (k : Nat) (x y z w : Int) : galleyref02_Long.j1 (k + 2) x y z w = some (if ((128 ≤ z ∧ z ≤ 191) ∧ (128 ≤ w ∧ w ≤ 191)) ∧ (x = 240 ∧ (144 ≤ y ∧ y ≤ 191) ∨ (241 ≤ x ∧ x ≤ 243) ∧ (128 ≤ y ∧ y ≤ 191) ∨ x = 244 ∧ (128 ≤ y ∧ y ≤ 143)) then 4 else 0) := by
  simp only [galleyref02_Long.j1, in_eq, Option.bind_some, decide_eq_true_eq, j2_eq]
  by_cases hz : 128 ≤ z ∧ z ≤ 191
  · rw [if_pos hz]
    by_cases hw : 128 ≤ w ∧ w ≤ 191 <;> simp [hz, hw]
  · simp [hz]
theorem j0_eq (k : Nat) (x y z w : Int) (b : Bool) (hb : b = true → (194 ≤ x ∧ x ≤ 223) ∧ (128 ≤ y ∧ y ≤ 191)) (hb' : b = false → ¬ ((194 ≤ x ∧ x ≤ 223) ∧ (128 ≤ y ∧ y ≤ 191))) (hx : ¬ (0 ≤ x ∧ x ≤ 127)) :
    galleyref02_Long.j0 (k + 3) x y z w b = some ((lgT x y z w : Nat) : Int) := by
  unfold lgT
  rw [if_neg hx]
  cases b
  · rw [if_neg (hb' rfl)]
    clear hb hb'
    simp only [galleyref02_Long.j0, in_eq, Option.bind_some, decide_eq_true_eq, j1_eq, Bool.false_eq_true, if_false]
    by_cases hz : 128 ≤ z ∧ z ≤ 191
    · by_cases c3 : (128 ≤ z ∧ z ≤ 191) ∧ (x = 224 ∧ (160 ≤ y ∧ y ≤ 191) ∨ (225 ≤ x ∧ x ≤ 236) ∧ (128 ≤ y ∧ y ≤ 191) ∨ x = 237 ∧ (128 ≤ y ∧ y ≤ 159) ∨ (238 ≤ x ∧ x ≤ 239) ∧ (128 ≤ y ∧ y ≤ 191))
      · rw [if_pos c3]
        obtain ⟨_, c⟩ := c3
        rcases c with ⟨rfl, hy⟩ | ⟨hx2, hy⟩ | ⟨rfl, hy⟩ | ⟨hx2, hy⟩
        · rw [if_pos hz, if_pos rfl, if_pos hy]; rfl
        · rw [if_pos hz, if_neg (by omega), if_pos hx2, if_pos hy]; rfl
        · rw [if_pos hz, if_neg (by decide), if_neg (by decide), if_pos rfl, if_pos hy]; rfl
        · rw [if_pos hz, if_neg (by omega), if_neg (by omega), if_neg (by omega), if_pos hx2, if_pos hy]; rfl
      · rw [if_neg c3]
        have hE : (some (((if ((128 ≤ z ∧ z ≤ 191) ∧ (128 ≤ w ∧ w ≤ 191)) ∧ (x = 240 ∧ (144 ≤ y ∧ y ≤ 191) ∨ (241 ≤ x ∧ x ≤ 243) ∧ (128 ≤ y ∧ y ≤ 191) ∨ x = 244 ∧ (128 ≤ y ∧ y ≤ 143)) then 4 else 0 : Nat) : Int)) : Option Int) = some (if ((128 ≤ z ∧ z ≤ 191) ∧ (128 ≤ w ∧ w ≤ 191)) ∧ (x = 240 ∧ (144 ≤ y ∧ y ≤ 191) ∨ (241 ≤ x ∧ x ≤ 243) ∧ (128 ≤ y ∧ y ≤ 191) ∨ x = 244 ∧ (128 ≤ y ∧ y ≤ 143)) then 4 else 0) := by split <;> rfl
        rw [hE]
        generalize (some (if ((128 ≤ z ∧ z ≤ 191) ∧ (128 ≤ w ∧ w ≤ 191)) ∧ (x = 240 ∧ (144 ≤ y ∧ y ≤ 191) ∨ (241 ≤ x ∧ x ≤ 243) ∧ (128 ≤ y ∧ y ≤ 191) ∨ x = 244 ∧ (128 ≤ y ∧ y ≤ 143)) then (4 : Int) else 0)) = E
        clear hE
        have hc : x = 224 ∨ (225 ≤ x ∧ x ≤ 236) ∨ x = 237 ∨ (238 ≤ x ∧ x ≤ 239) ∨ ¬ (224 ≤ x ∧ x ≤ 239) := by omega
        rcases hc with h | h | h | h | h
        · rw [if_pos hz, if_pos h, if_neg (by omega), if_neg (by omega), if_neg (by omega), if_neg (by omega)]
        · rw [if_pos hz, if_neg (by omega), if_pos h, if_neg (by omega), if_neg (by omega), if_neg (by omega)]
        · rw [if_pos hz, if_neg (by omega), if_neg (by omega), if_pos h, if_neg (by omega), if_neg (by omega)]
        · rw [if_pos hz, if_neg (by omega), if_neg (by omega), if_neg (by omega), if_pos h, if_neg (by omega)]
        · rw [if_pos hz, if_neg (by omega), if_neg (by omega), if_neg (by omega), if_neg (by omega)]
    · rw [if_neg hz, if_neg (fun h => hz h.1.1), if_neg (fun h => hz h.1), if_neg (fun h => hz h.1.1)]; rfl
  · rw [if_pos (hb rfl)]
    simp only [galleyref02_Long.j0, if_true]
    rfl
theorem long_eq (k : Nat) (l : List Int) (hb : Byt l) (hl : l.length ≤ 140737488355328) (p : Nat) (hp : p ≤ 140737488355328) : galleyref02_Long.f (k + 3) l p = some ((lg (l.drop p) : Nat) : Int) := by
  have hT : lg (l.drop p) = lgT (atI l p) (atI l (p + 1)) (atI l (p + 2)) (atI l (p + 3)) := by
    have a0 : ∀ k : Nat, atI l ((p : Int) + (k : Nat)) = l.getD (p + k) (-1) := fun k => by
      unfold atI; rw [if_neg (by omega)]; congr 1
    have e0 := a0 0
    have e1 := a0 1
    have e2 := a0 2
    have e3 := a0 3
    rw [Int.natCast_zero, Int.add_zero] at e0
    rw [show ((p : Int) + 1) = (p : Int) + ((1 : Nat) : Int) from rfl, show ((p : Int) + 2) = (p : Int) + ((2 : Nat) : Int) from rfl, show ((p : Int) + 3) = (p : Int) + ((3 : Nat) : Int) from rfl, e0, e1, e2, e3]
    rw [← getD_drop', ← getD_drop', ← getD_drop', ← getD_drop']
    cases l.drop p with
    | nil => rfl
    | cons x t => rfl
  unfold galleyref02_Long.f
  rw [w64 (by omega) (by omega), w64 (by omega) (by omega), w64 (by omega) (by omega)]
  simp only [at_eq l hb hl, in_eq, Option.bind_some, decide_eq_true_eq]
  rw [hT]
  generalize atI l p = x
  generalize atI l (p + 1) = y
  generalize atI l (p + 2) = z
  generalize atI l (p + 3) = w
  by_cases h1 : 0 ≤ x ∧ x ≤ 127
  · rw [if_pos h1]; unfold lgT; rw [if_pos h1]; rfl
  · rw [if_neg h1]
    by_cases h2 : 194 ≤ x ∧ x ≤ 223
    · rw [if_pos h2]
      exact j0_eq k x y z w _ (fun h => ⟨h2, by simpa using h⟩) (fun h h' => by simp [h'.2] at h) h1
    · rw [if_neg h2]
      exact j0_eq k x y z w _ (fun h => by cases h) (fun _ h' => h2 h'.1) h1
theorem inside_eq (k : Nat) (l : List Int) (hb : Byt l) (hl : l.length ≤ 140737488355328) (p : Nat) (hp : p ≤ 140737488355328) : galleyref02_Inside.f (k + 7) l p = some (insB l p) := by
  have step : ∀ (k : Nat) (i : Nat), 1 ≤ i → i ≤ 3 → galleyref02_Inside.l0 (k + 4) l p i = if i ≤ p ∧ i < lg (l.drop (p - i)) then some true else galleyref02_Inside.l0 (k + 3) l p ((i + 1 : Nat) : Int) := by
    intro k i h1 h3
    rw [galleyref02_Inside.l0, if_pos (by omega), w64 (by omega) (by omega), w64 (by omega) (by omega)]
    by_cases h : i ≤ p
    · rw [if_pos (by omega), show (p : Int) - i = ((p - i : Nat) : Int) by omega, long_eq k l hb hl (p - i) (by omega)]
      simp only [Option.bind_some]
      by_cases h' : i < lg (l.drop (p - i))
      · rw [if_pos (by omega), if_pos ⟨h, h'⟩]
      · rw [if_neg (by omega), if_neg (fun c => h' c.2)]; rfl
    · rw [if_neg (by omega), if_neg (fun c => h c.1)]; rfl
  unfold galleyref02_Inside.f
  have s1 := step (k + 3) 1 (by omega) (by omega)
  have s2 := step (k + 2) 2 (by omega) (by omega)
  have s3 := step (k + 1) 3 (by omega) (by omega)
  have s4 : galleyref02_Inside.l0 (k + 4) l p ((4 : Nat) : Int) = some false := by
    simp only [galleyref02_Inside.l0]; rw [if_neg (by omega)]
  rw [show (1 : Int) = ((1 : Nat) : Int) from rfl, s1]
  unfold insB
  by_cases c1 : 1 ≤ p ∧ 1 < lg (l.drop (p - 1))
  · rw [if_pos c1]; simp [c1]
  · rw [if_neg c1, s2]
    by_cases c2 : 2 ≤ p ∧ 2 < lg (l.drop (p - 2))
    · rw [if_pos c2]; simp [c2]
    · rw [if_neg c2, s3]
      by_cases c3 : 3 ≤ p ∧ 3 < lg (l.drop (p - 3))
      · rw [if_pos c3]; simp [c3]
      · rw [if_neg c3, s4, decide_eq_false c1, decide_eq_false c2, decide_eq_false c3]; rfl
theorem edges_l0 (l : List Int) (hb : Byt l) (hl : l.length ≤ 140737488351232) (d : Nat) : ∀ (k : Nat) (acc : List Int) (p : Nat), p + d = l.length + 1 → acc.length ≤ p → acc.length + d ≤ 17592186044416 → d + 8 ≤ k →
    galleyref02_Edges.l0 k l acc p = some (acc ++ (edF l p d).map (fun q : Nat => (q : Int))) := by
  induction d with
  | zero =>
    intro k acc p hp ha hl2 hk
    obtain ⟨k, rfl⟩ : ∃ m, k = m + 1 := ⟨k - 1, by omega⟩
    rw [galleyref02_Edges.l0, if_neg (by omega)]
    simp [edF]
  | succ d ih =>
    intro k acc p hp ha hl2 hk
    obtain ⟨k, rfl⟩ : ∃ m, k = m + 8 := ⟨k - 8, by omega⟩
    rw [galleyref02_Edges.l0, if_pos (by omega), inside_eq k l hb (by omega) p (by omega)]
    simp only [Option.bind_some]
    have hw : wrap64 ((p : Int) + 1) = ((p + 1 : Nat) : Int) := by rw [w64 (by omega) (by omega)]; rfl
    cases hi : insB l p with
    | true =>
      rw [if_pos rfl, hw, ih (k + 7) acc (p + 1) (by omega) (by omega) (by omega) (by omega)]
      congr 2
      unfold edF
      rw [List.range'_succ, List.filter_cons, hi]
      simp
    | false =>
      rw [if_neg (by decide), if_pos (by omega), hw, ih (k + 7) (acc ++ [(p : Int)]) (p + 1) (by omega) (by simp; omega) (by simp; omega) (by omega)]
      congr 1
      unfold edF
      rw [List.range'_succ, List.filter_cons, hi]
      simp
theorem edF_last (l : List Int) (p : Nat) (hp : p ≤ l.length) : edF l p (l.length + 1 - p) = edF l p (l.length - p) ++ [l.length] := by
  unfold edF
  rw [show l.length + 1 - p = (l.length - p) + 1 by omega, ← List.range'_append_1, List.filter_append, show p + (l.length - p) = l.length by omega]
  simp [List.range'_succ, ins_end]
theorem edges_eq (k : Nat) (l : List Int) (hb : Byt l) (hl : l.length ≤ 4294967296) (hk : l.length + 9 ≤ k) : galleyref02_Edges.f k l = some ((edF l 0 l.length ++ [l.length]).map (fun q : Nat => (q : Int))) := by
  unfold galleyref02_Edges.f
  have := edges_l0 l hb (by omega) (l.length + 1) k [] 0 (by omega) (by simp) (by simp; omega) (by omega)
  rw [Int.natCast_zero] at this
  have e := edF_last l 0 (by omega)
  rw [Nat.sub_zero, Nat.sub_zero] at e
  rw [this, e]
  rfl
theorem of_j0 (k : Nat) (x0 : List Int) (x1 x5 x6 : Int) : galleyref02_Of.j0 (k + 1) x0 x1 x5 x6 = galleyref02_Of.l0 k x0 x1 x5 x6 1 := by simp only [galleyref02_Of.j0]
theorem of_end (k : Nat) (x0 : List Int) (x1 x5 x6 x7 : Int) (h : ¬ x7 < x5) : galleyref02_Of.l0 (k + 1) x0 x1 x5 x6 x7 = some (wrap32 x6, x5, true) := by
  simp only [galleyref02_Of.l0]; rw [if_neg h]
theorem of_next (k : Nat) (l : List Int) (hb : Byt l) (p i n : Nat) (r : Int) (hr : 0 ≤ r ∧ r ≤ 2147483647) (hp : p + i < l.length) (hl : l.length ≤ 4294967296) (hi : i < n) (hn : n ≤ 4) :
    galleyref02_Of.l0 (k + 1) l p n r i = galleyref02_Of.l0 k l p n (r * 64 + (l.getD (p + i) (-1)) % 64) ((i + 1 : Nat) : Int) := by
  have hg := hb.getD (p + i) hp (-1)
  simp only [galleyref02_Of.l0]
  have e : ((p : Int) + (i : Int)) = ((p + i : Nat) : Int) := by omega
  rw [if_pos (by omega), e, w64 (by omega) (by omega), if_pos (by omega), if_pos (by omega), rd_getD l _ (by omega)]
  simp only [Int.toNat_natCast]
  have hm : Int.tmod (l.getD (p + i) (-1)) 64 = l.getD (p + i) (-1) % 64 := Int.tmod_eq_emod_of_nonneg hg.1
  rw [w64 (n := l.getD (p + i) (-1)) (by omega) (by omega), hm, w64 (n := r * 64) (by omega) (by omega), w64 (by omega) (by omega), w64 (n := (i : Int) + 1) (by omega) (by omega)]
  rfl
theorem of_eq (k : Nat) (l : List Int) (hb : Byt l) (hl : l.length ≤ 4294967296) (p : Nat) (hp : p < l.length) : galleyref02_Of.f (k + 7) l p = some (ru (l.drop p), ((wd (l.drop p) : Nat) : Int), decide (lg (l.drop p) ≠ 0)) := by
  have h4 := lg_le (l.drop p)
  have hll := lg_len (l.drop p)
  have hu := ru_facts
  unfold galleyref02_Of.f
  rw [long_eq (k + 4) l hb (by omega) p (by omega)]
  simp only [Option.bind_some]
  obtain ⟨x, t, hxt⟩ : ∃ x t, l.drop p = x :: t := by
    cases h : l.drop p with
    | nil => have := congrArg List.length h; simp at this; omega
    | cons x t => exact ⟨x, t, rfl⟩
  have hx : x = l.getD p (-1) := by
    have := getD_drop' l p 0 (-1)
    rw [hxt] at this
    simpa using this
  have g0 := hb.getD p hp (-1)
  have hr := ru_facts x t (by omega)
  have gk : ∀ i, (x :: t).getD i (-1) = l.getD (p + i) (-1) := fun i => by rw [← hxt, getD_drop']
  rw [hxt] at h4 hll ⊢
  have hlt : (x :: t).length = l.length - p := by have := congrArg List.length hxt; simp at this; simp; omega
  have hrd : rd l p = l.getD p (-1) := by rw [rd_getD l p (by simpa using hp)]; simp
  have hc : lg (x :: t) = 0 ∨ lg (x :: t) = 1 ∨ lg (x :: t) = 2 ∨ lg (x :: t) = 3 ∨ lg (x :: t) = 4 := by omega
  rcases hc with e | e | e | e | e
  · rw [e, if_pos (by rfl)]; simp [ru, wd, e]
  · rw [e, if_neg (by decide), if_pos (by omega), if_pos (by omega), if_neg (by decide), if_neg (by decide), if_neg (by decide), of_j0, hrd, of_end _ _ _ _ _ _ (by decide), w64 (by omega) (by omega)]
    simp only [ru, wd, e, List.take_succ_cons, List.take_zero, num]
    rw [wrap32_in' (by omega) (by omega), hx]
    rfl
  · rw [e] at hll
    rw [e, if_neg (by decide), if_pos (by omega), if_pos (by omega), if_pos (by decide), of_j0, hrd]
    have m0 : Int.tmod (wrap64 (l.getD p (-1))) 32 = l.getD p (-1) % 32 := by rw [w64 (by omega) (by omega)]; exact Int.tmod_eq_emod_of_nonneg g0.1
    have g1 := hb.getD (p + 1) (by omega) (-1)
    rw [m0, show ((1 : Int)) = ((1 : Nat) : Int) from rfl, of_next _ l hb p 1 2 _ (by omega) (by omega) hl (by omega) (by omega), of_end _ _ _ _ _ _ (by decide)]
    have := gk 1
    match t, hll, this with
    | y :: t', _, this =>
      simp only [List.getD_cons_succ, List.getD_cons_zero] at this
      simp only [ru, wd, e, List.take_succ_cons, List.take_zero, num] at hr ⊢
      rw [wrap32_in' (by omega) (by omega), hx, this]
      rfl
    | [], hll, _ => simp at hll
  · rw [e] at hll
    rw [e, if_neg (by decide), if_pos (by omega), if_pos (by omega), if_neg (by decide), if_pos (by decide), of_j0, hrd]
    have m0 : Int.tmod (wrap64 (l.getD p (-1))) 16 = l.getD p (-1) % 16 := by rw [w64 (by omega) (by omega)]; exact Int.tmod_eq_emod_of_nonneg g0.1
    have g1 := hb.getD (p + 1) (by omega) (-1)
    have g2 := hb.getD (p + 2) (by omega) (-1)
    rw [m0, show ((1 : Int)) = ((1 : Nat) : Int) from rfl, of_next _ l hb p 1 3 _ (by omega) (by omega) hl (by omega) (by omega), of_next _ l hb p 2 3 _ (by omega) (by omega) hl (by omega) (by omega), of_end _ _ _ _ _ _ (by decide)]
    have e1 := gk 1
    have e2 := gk 2
    match t, hll, e1, e2 with
    | y :: z :: t', _, e1, e2 =>
      simp only [List.getD_cons_succ, List.getD_cons_zero] at e1 e2
      simp only [ru, wd, e, List.take_succ_cons, List.take_zero, num] at hr ⊢
      rw [wrap32_in' (by omega) (by omega), hx, e1, e2]
      rfl
    | [_], hll, _, _ => simp at hll
    | [], hll, _, _ => simp at hll
  · rw [e] at hll
    rw [e, if_neg (by decide), if_pos (by omega), if_pos (by omega), if_neg (by decide), if_neg (by decide), if_pos (by decide), of_j0, hrd]
    have m0 : Int.tmod (wrap64 (l.getD p (-1))) 8 = l.getD p (-1) % 8 := by rw [w64 (by omega) (by omega)]; exact Int.tmod_eq_emod_of_nonneg g0.1
    have g1 := hb.getD (p + 1) (by omega) (-1)
    have g2 := hb.getD (p + 2) (by omega) (-1)
    have g3 := hb.getD (p + 3) (by omega) (-1)
    rw [m0, show ((1 : Int)) = ((1 : Nat) : Int) from rfl, of_next _ l hb p 1 4 _ (by omega) (by omega) hl (by omega) (by omega), of_next _ l hb p 2 4 _ (by omega) (by omega) hl (by omega) (by omega), of_next _ l hb p 3 4 _ (by omega) (by omega) hl (by omega) (by omega), of_end _ _ _ _ _ _ (by decide)]
    have e1 := gk 1
    have e2 := gk 2
    have e3 := gk 3
    match t, hll, e1, e2, e3 with
    | y :: z :: w :: t', _, e1, e2, e3 =>
      simp only [List.getD_cons_succ, List.getD_cons_zero] at e1 e2 e3
      simp only [ru, wd, e, List.take_succ_cons, List.take_zero, num] at hr ⊢
      rw [wrap32_in' (by omega) (by omega), hx, e1, e2, e3]
      rfl
    | [_, _], hll, _, _, _ => simp at hll
    | [_], hll, _, _, _ => simp at hll
    | [], hll, _, _, _ => simp at hll
def stp (l : List Int) (p : Nat) : S64 := ⟨ru (l.drop p), ((wd (l.drop p) : Nat) : Int), decide (lg (l.drop p) ≠ 0)⟩
theorem steps_l0 (l : List Int) (hb : Byt l) (hl : l.length ≤ 4294967296) (E : List Nat) (hE : ∀ p ∈ E, p < l.length) (e : List Int) (he : e = (E ++ [l.length]).map (fun q : Nat => (q : Int))) (hlen : E.length ≤ l.length) (d : Nat) :
    ∀ (k : Nat) (acc : List S64) (i : Nat), i + d = E.length → acc.length = i → d + 8 ≤ k → galleyref02_Steps.l0 k l acc e i = some (acc ++ (E.drop i).map (stp l)) := by
  subst he
  have hel : ((E ++ [l.length]).map (fun q : Nat => (q : Int))).length = E.length + 1 := by simp
  induction d with
  | zero =>
    intro k acc i hi ha hk
    obtain ⟨k, rfl⟩ : ∃ m, k = m + 1 := ⟨k - 1, by omega⟩
    rw [galleyref02_Steps.l0, w64 (by omega) (by omega), if_neg (by omega), List.drop_of_length_le (by omega)]
    simp
  | succ d ih =>
    intro k acc i hi ha hk
    obtain ⟨k, rfl⟩ : ∃ m, k = m + 8 := ⟨k - 8, by omega⟩
    rw [galleyref02_Steps.l0, w64 (by omega) (by omega), if_pos (by omega), if_pos (by omega), if_pos (by omega)]
    have hiE : i < E.length := by omega
    have hr : rd ((E ++ [l.length]).map (fun q : Nat => (q : Int))) (i : Int) = ((E[i]'hiE : Nat) : Int) := by
      rw [rd_getD _ _ (by omega)]
      simp only [Int.toNat_natCast]
      rw [List.map_append, getD_app _ _ _ (by simpa using hiE)]
      simp [List.getD, List.getElem?_eq_getElem hiE]
    rw [hr, of_eq k l hb hl _ (hE _ (List.getElem_mem _))]
    simp only [Option.bind_some]
    rw [if_pos (by omega), show (i : Int) + 1 = ((i + 1 : Nat) : Int) from rfl, ih (k + 7) _ (i + 1) (by omega) (by simp; omega) (by omega)]
    rw [List.drop_eq_getElem_cons hiE, List.map_cons]
    simp only [List.append_assoc, List.cons_append, List.nil_append]
    rfl
theorem edF_lt (l : List Int) (p n : Nat) (q : Nat) (h : q ∈ edF l p n) : q < p + n := by
  unfold edF at h
  have := (List.mem_filter.1 h).1
  rw [List.mem_range'_1] at this
  exact this.2
theorem edF_length (l : List Int) (p n : Nat) : (edF l p n).length ≤ n := by
  unfold edF
  exact Nat.le_trans (List.length_filter_le _ _) (by simp)
theorem steps_eq (k : Nat) (l : List Int) (hb : Byt l) (hl : l.length ≤ 4294967296) (hk : l.length + 9 ≤ k) : galleyref02_Steps.f k l = some ((edF l 0 l.length).map (stp l)) := by
  unfold galleyref02_Steps.f
  rw [edges_eq k l hb hl hk]
  simp only [Option.bind_some]
  have hn := edF_length l 0 l.length
  have := steps_l0 l hb hl (edF l 0 l.length) (fun p hp => by have := edF_lt l 0 l.length p hp; omega) _ rfl hn (edF l 0 l.length).length k [] 0 (by omega) rfl (by omega)
  rw [Int.natCast_zero] at this
  rw [this]
  rfl
theorem units_eq (l : List Int) (p : Nat) (hp : p < l.length) (hb : Byt l) (c : Bool) : galleyref05_units.f (ru (l.drop p)) ((wd (l.drop p) : Nat) : Int) c = some (if lg (l.drop p) = 4 then 2 else 1) := by
  obtain ⟨x, t, hxt⟩ : ∃ x t, l.drop p = x :: t := by
    cases h : l.drop p with
    | nil => have := congrArg List.length h; simp at this; omega
    | cons x t => exact ⟨x, t, rfl⟩
  have h0 : 0 ≤ x := (hb.drop p x (by rw [hxt]; simp)).1
  have := (ru_facts x t h0).2.2.1
  unfold galleyref05_units.f
  rw [hxt]
  by_cases h : lg (x :: t) = 4
  · rw [if_pos (this.2 h), if_pos h]
  · rw [if_neg (fun c => h (this.1 c)), if_neg h]
theorem count_edges (l : List Int) (n : Nat) : ∀ p, l.length - p = n → p ≤ l.length → insB l p = false →
    (((edF l p (l.length - p)).length : Nat) : Int) = rn (l.drop p) ∧ ((edF l p (l.length - p)).map (fun q => if lg (l.drop q) = 4 then (2 : Int) else 1)).sum = rn (l.drop p) + fr (l.drop p) := by
  induction n using Nat.strongRecOn with
  | ind n ih =>
    intro p hn hp he
    by_cases hlt : p < l.length
    · have hs := ins_step l p he
      have hw := wd_pos (l.drop p)
      have hwl : p + wd (l.drop p) ≤ l.length := by
        have := lg_len (l.drop p); simp at this
        unfold wd; split <;> omega
      have h := ih (l.length - (p + wd (l.drop p))) (by omega) (p + wd (l.drop p)) rfl hwl hs.2
      rw [edF_step l p hlt he]
      obtain ⟨x, t, hxt⟩ : ∃ x t, l.drop p = x :: t := by
        cases h : l.drop p with
        | nil => have := congrArg List.length h; simp at this; omega
        | cons x t => exact ⟨x, t, rfl⟩
      have hdd : l.drop (p + wd (l.drop p)) = (x :: t).drop (wd (x :: t)) := by rw [← hxt, List.drop_drop]
      rw [hdd] at h
      rw [List.length_cons, List.map_cons, List.sum_cons, h.2]
      rw [hxt] at h ⊢
      rw [rn_step, fr_step]
      refine ⟨by omega, ?_⟩
      split <;> omega
    · have : p = l.length := by omega
      subst this
      simp [edF, rn, fr]
theorem rd_T_at (L : List S64) (i : Nat) (h : i < L.length) : rd_T64 L (i : Int) = L[i] := by
  simp [rd_T64, rdOf, List.getD, List.getElem?_eq_getElem h]
theorem sizes_l0_end (l : List Int) (S : List S64) (z0 z1 z2 z3 : Int) (k : Nat) (i : Nat) (h : S.length ≤ i) : galleyref05_Sizes.l0 (k + 1) l S i z0 z1 z2 z3 = galleyref05_Sizes.l1 k l 0 z0 z1 z2 z3 := by
  rw [galleyref05_Sizes.l0, if_neg (by omega)]
theorem sizes_l0_next (l : List Int) (hb : Byt l) (S : List S64) (z0 z1 z2 z3 : Int) (k : Nat) (i : Nat) (h : i < S.length) (q : Nat) (hq : q < l.length) (hS : S[i] = stp l q) (hl : S.length ≤ 4294967296) (h1 : 0 ≤ z1 ∧ z1 ≤ 4294967296) (h2 : 0 ≤ z2 ∧ z2 ≤ 8589934592) :
    galleyref05_Sizes.l0 (k + 1) l S i z0 z1 z2 z3 = galleyref05_Sizes.l0 k l S ((i + 1 : Nat) : Int) z0 (z1 + 1) (z2 + if lg (l.drop q) = 4 then 2 else 1) z3 := by
  have hu : (if lg (l.drop q) = 4 then (2 : Int) else 1) = 2 ∨ (if lg (l.drop q) = 4 then (2 : Int) else 1) = 1 := by split <;> simp
  rw [galleyref05_Sizes.l0, if_pos (by omega), if_pos (by omega), rd_T_at _ i h, hS]
  have hun := units_eq l q hq hb (decide (lg (l.drop q) ≠ 0))
  have e : galleyref05_units.f (stp l q).f0 (stp l q).f1 (stp l q).f2 = some (if lg (l.drop q) = 4 then 2 else 1) := hun
  rw [e, Option.bind_some, w64 (n := (i : Int) + 1) (by omega) (by omega), w64 (n := z1 + 1) (by omega) (by omega), w64 (by omega) (by omega)]
  rfl
theorem sizes_l0 (l : List Int) (hb : Byt l) (hl : l.length ≤ 4294967296) (E : List Nat) (hE : ∀ p ∈ E, p < l.length) (hlen : E.length ≤ l.length) (z0 z3 : Int) (d : Nat) :
    ∀ (k : Nat) (i : Nat) (z1 z2 : Int), i + d = E.length → z1 = i → 0 ≤ z2 → z2 ≤ 2 * i → galleyref05_Sizes.l0 (k + d + 1) l (E.map (stp l)) i z0 z1 z2 z3 =
      galleyref05_Sizes.l1 k l 0 z0 (E.length : Int) (z2 + ((E.drop i).map (fun q => if lg (l.drop q) = 4 then (2 : Int) else 1)).sum) z3 := by
  induction d with
  | zero =>
    intro k i z1 z2 hi h1 h2 h3
    have hz : z1 = (E.length : Int) := by omega
    rw [List.drop_of_length_le (by omega), hz]
    rw [show k + 0 + 1 = k + 1 from rfl, sizes_l0_end l _ _ _ _ _ k i (by rw [List.length_map]; omega)]
    simp
  | succ d ih =>
    intro k i z1 z2 hi h1 h2 h3
    have hiE : i < E.length := by omega
    have hu : (if lg (l.drop E[i]) = 4 then (2 : Int) else 1) = 2 ∨ (if lg (l.drop E[i]) = 4 then (2 : Int) else 1) = 1 := by split <;> simp
    have hn := sizes_l0_next l hb (E.map (stp l)) z0 z1 z2 z3 (k + d + 1) i (by rw [List.length_map]; exact hiE) E[i] (hE _ (List.getElem_mem _)) (by simp) (by rw [List.length_map]; omega) (by omega) (by omega)
    have hi2 := ih k (i + 1) (z1 + 1) (z2 + if lg (l.drop E[i]) = 4 then 2 else 1) (by omega) (by omega) (by omega) (by omega)
    rw [show k + (d + 1) + 1 = k + d + 1 + 1 from rfl, hn, hi2, List.drop_eq_getElem_cons hiE, List.map_cons, List.sum_cons, Int.add_assoc]
theorem sizes_l1 (l : List Int) (hb : Byt l) (hl : l.length ≤ 4294967296) (z0 z1 z2 : Int) (d : Nat) :
    ∀ (k : Nat) (i : Nat) (z3 : Int), i + d = l.length → 0 ≤ z3 → z3 ≤ i → galleyref05_Sizes.l1 (k + d + 1) l i z0 z1 z2 z3 = some (z0, z1, z2, z3 + en (if i = 0 then 0 else l.getD (i - 1) (-1)) (l.drop i)) := by
  induction d with
  | zero =>
    intro k i z3 hi h1 h2
    rw [galleyref05_Sizes.l1, if_neg (by omega), List.drop_of_length_le (by omega)]
    simp [en]
  | succ d ih =>
    intro k i z3 hi h1 h2
    have hil : i < l.length := by omega
    have hg : l.drop i = l.getD i (-1) :: l.drop (i + 1) := by
      rw [List.drop_eq_getElem_cons hil]
      simp [List.getD, List.getElem?_eq_getElem hil]
    have s1 : wrap64 ((i : Int) + 1) = ((i + 1 : Nat) : Int) := by rw [w64 (by omega) (by omega)]; rfl
    have s3 : wrap64 (z3 + 1) = z3 + 1 := w64 (by omega) (by omega)
    have i1 := ih k (i + 1) (z3 + 1) (by omega) (by omega) (by omega)
    have i0 := ih k (i + 1) z3 (by omega) (by omega) (by omega)
    rw [if_neg (by omega), Nat.add_sub_cancel] at i1 i0
    rw [← Nat.add_assoc k d 1, galleyref05_Sizes.l1, if_pos (by omega), if_pos (by omega), rd_getD l _ (by simpa using hil), s1, s3, hg]
    simp only [Int.toNat_natCast, en]
    by_cases h10 : l.getD i (-1) = 10
    · rw [if_pos h10]
      by_cases hz : i = 0
      · subst hz
        rw [if_pos rfl, i1, if_pos (Or.inr ⟨h10, by decide⟩)]
        simp; omega
      · have sp : wrap64 ((i : Int) - 1) = ((i - 1 : Nat) : Int) := by rw [w64 (by omega) (by omega)]; omega
        rw [if_neg (by omega), sp, if_pos (by omega), if_pos (by omega), rd_getD l _ (by simp; omega), Int.toNat_natCast, if_neg hz]
        by_cases h13 : l.getD (i - 1) (-1) = 13
        · rw [if_pos h13, if_neg (by omega), i0, if_neg (by omega)]; simp
        · rw [if_neg h13, i1, if_pos (Or.inr ⟨h10, h13⟩)]; simp; omega
    · rw [if_neg h10]
      by_cases h13 : l.getD i (-1) = 13
      · rw [if_pos h13, i1, if_pos (Or.inl h13)]; simp; omega
      · rw [if_neg h13, i0, if_neg (by omega)]; simp
theorem refSizes_eq (k : Nat) (l : List Int) (hb : Byt l) (hl : l.length ≤ 4294967296) (hk : 2 * l.length + 12 ≤ k) : galleyref05_Sizes.f k l = some ((l.length : Int), rn l, rn l + fr l, en 0 l) := by
  unfold galleyref05_Sizes.f
  rw [steps_eq k l hb hl (by omega)]
  simp only [Option.bind_some]
  have hn := edF_length l 0 l.length
  have hc := count_edges l (l.length - 0) 0 rfl (by omega) (insB_zero l)
  rw [Nat.sub_zero, List.drop_zero] at hc
  have hs := sizes_l0 l hb hl (edF l 0 l.length) (fun p hp => by have := edF_lt l 0 l.length p hp; omega) hn (l.length : Int) 0 (edF l 0 l.length).length (k - (edF l 0 l.length).length - 1) 0 0 0 (by omega) rfl (by omega) (by omega)
  rw [show k - (edF l 0 l.length).length - 1 + (edF l 0 l.length).length + 1 = k by omega, Int.natCast_zero, List.drop_zero, hc.2, hc.1] at hs
  rw [hs]
  have h1 := sizes_l1 l hb hl (l.length : Int) (rn l) (0 + (rn l + fr l)) l.length (k - (edF l 0 l.length).length - 1 - l.length - 1) 0 0 (by omega) (by omega) (by omega)
  rw [show k - (edF l 0 l.length).length - 1 - l.length - 1 + l.length + 1 = k - (edF l 0 l.length).length - 1 by omega, Int.natCast_zero, List.drop_zero, if_pos rfl, Int.zero_add, Int.zero_add] at h1
  rw [Int.zero_add, h1]
theorem stepF_eq (l : List Int) (hb : Byt l) (p : Nat) (hp : p < l.length) : (stepF ((strOfNums l).extract p (strOfNums l).size)).1 = ru (l.drop p) := by
  have hd : (Utf8.decode ((strOfNums l).extract p (strOfNums l).size) 0).1 = (Utf8.decode (strOfNums l) p).1 := by
    rw [Lib.tail_decode, Nat.add_zero]
  have he := (decode_eq l hb p hp).1
  unfold stepF
  rw [hd, ← he]
  split
  · rename_i h; rw [h.1]; rfl
  · rfl
theorem szAll_eq (l : List Int) (hb : Byt l) (hl : l.length ≤ 4294967296) (fuel : Nat) : ∀ (p : Nat) (z : Int × Int × Int × Int), p ≤ l.length → l.length ≤ p + fuel → 0 ≤ z.1 → z.1 ≤ p → 0 ≤ z.2.1 → z.2.1 ≤ 2 * p → 0 ≤ z.2.2.1 → z.2.2.1 ≤ p →
    ((stepsN (strOfNums l) fuel p).foldl szStep z).1 = z.1 + rn (l.drop p) ∧ ((stepsN (strOfNums l) fuel p).foldl szStep z).2.1 = z.2.1 + (rn (l.drop p) + fr (l.drop p)) ∧ ((stepsN (strOfNums l) fuel p).foldl szStep z).2.2.1 = z.2.2.1 + en z.2.2.2 (l.drop p) := by
  have hsz : (strOfNums l).size = l.length := by
    show (strOfNums l).data.size = _
    rw [← Array.length_toList, strOfNums_data, List.length_map]
  induction fuel with
  | zero =>
    intro p z hp hf _ _ _ _ _ _
    have : p = l.length := by omega
    subst this
    simp [stepsN, rn, fr, en]
  | succ fuel ih =>
    intro p z hp hf h1 h2 h3 h4 h5 h6
    by_cases hlt : p < l.length
    · have hd := decode_eq l hb p hlt
      have hw := wd_pos (l.drop p)
      have hwl : p + wd (l.drop p) ≤ l.length := by
        have := lg_len (l.drop p); simp at this
        unfold wd; split <;> omega
      obtain ⟨x, t, hxt⟩ : ∃ x t, l.drop p = x :: t := by
        cases h : l.drop p with
        | nil => have := congrArg List.length h; simp at this; omega
        | cons x t => exact ⟨x, t, rfl⟩
      have h0 : 0 ≤ x := (hb.drop p x (by rw [hxt]; simp)).1
      have hr := ru_facts x t h0
      have hdd : l.drop (p + wd (l.drop p)) = (x :: t).drop (wd (x :: t)) := by rw [← hxt, List.drop_drop]
      rw [stepsN, if_pos (by rw [hsz]; exact hlt), List.foldl_cons, hd.2]
      have hun : unitsN (ru (l.drop p)) = if lg (x :: t) = 4 then 2 else 1 := by
        unfold unitsN
        rw [hxt]
        by_cases h : lg (x :: t) = 4
        · rw [if_pos (hr.2.2.1.2 h), if_pos h]
        · rw [if_neg (fun c => h (hr.2.2.1.1 c)), if_neg h]
      have hu : (if lg (x :: t) = 4 then (2 : Int) else 1) = 2 ∨ (if lg (x :: t) = 4 then (2 : Int) else 1) = 1 := by split <;> simp
      have hst : szStep z (p, stepF ((strOfNums l).extract p (strOfNums l).size)) = (z.1 + 1, z.2.1 + (if lg (x :: t) = 4 then 2 else 1), z.2.2.1 + (if ru (x :: t) = 13 ∨ (ru (x :: t) = 10 ∧ z.2.2.2 ≠ 13) then 1 else 0), ru (x :: t)) := by
        unfold szStep
        simp only [stepF_eq l hb p hlt]
        rw [hun, w64 (by omega) (by omega), w64 (by omega) (by omega), w64 (by omega) (by omega), hxt]
        congr 3
        split <;> simp
      have hen : (if ru (x :: t) = 13 ∨ (ru (x :: t) = 10 ∧ z.2.2.2 ≠ 13) then (1 : Int) else 0) = 1 ∨ (if ru (x :: t) = 13 ∨ (ru (x :: t) = 10 ∧ z.2.2.2 ≠ 13) then (1 : Int) else 0) = 0 := by split <;> simp
      rw [hst]
      have hi := ih (p + wd (l.drop p)) (z.1 + 1, z.2.1 + (if lg (x :: t) = 4 then 2 else 1), z.2.2.1 + (if ru (x :: t) = 13 ∨ (ru (x :: t) = 10 ∧ z.2.2.2 ≠ 13) then 1 else 0), ru (x :: t)) hwl (by omega)
        (by show 0 ≤ z.1 + 1; omega) (by show z.1 + 1 ≤ ((p + wd (l.drop p) : Nat) : Int); omega) (by show 0 ≤ z.2.1 + _; omega) (by show z.2.1 + _ ≤ 2 * ((p + wd (l.drop p) : Nat) : Int); omega) (by show 0 ≤ z.2.2.1 + _; omega) (by show z.2.2.1 + _ ≤ ((p + wd (l.drop p) : Nat) : Int); omega)
      obtain ⟨i1, i2, i3⟩ := hi
      refine ⟨i1.trans ?_, i2.trans ?_, i3.trans ?_⟩
      · rw [hdd, hxt, rn_step]; show z.1 + 1 + _ = _; omega
      · rw [hdd, hxt, rn_step, fr_step]
        show z.2.1 + _ + _ = _
        have : (if lg (x :: t) = 4 then (2 : Int) else 1) = 1 + (if lg (x :: t) = 4 then 1 else 0) := by split <;> rfl
        omega
      · rw [hdd, hxt, en_step _ _ _ h0]; show z.2.2.1 + _ + en (ru (x :: t)) _ = _; omega
    · have : p = l.length := by omega
      subst this
      rw [stepsN, if_neg (by rw [hsz]; exact hlt)]
      simp [rn, fr, en]
theorem weldSizes_eq (l : List Int) (hb : Byt l) (hl : l.length ≤ 4294967296) : weld_Sizes.f l = some ((l.length : Int), rn l, rn l + fr l, en 0 l) := by
  have hsz : (strOfNums l).size = l.length := by
    show (strOfNums l).data.size = _
    rw [← Array.length_toList, strOfNums_data, List.length_map]
  have h := szAll_eq l hb hl (strOfNums l).size 0 (0, 0, 0, 0) (by omega) (by rw [hsz]; omega) (by decide) (by decide) (by decide) (by decide) (by decide) (by decide)
  rw [List.drop_zero] at h
  unfold weld_Sizes.f szAll
  rw [h.1, h.2.1, h.2.2]
  simp
end Go.Proofs.YteoonhidjldnfaaDoor.PuSz

namespace Go.Proofs.YteoonhidjldnfaaDoor.Pr
open Go.RowKit Go.Proofs.YteoonhidjldnfaaDoorW.PrintWords Go.Proofs.YteoonhidjldnfaaDoorW.PrintLast Go.Proofs.YteoonhidjldnfaaDoorW.PrintMore
attribute [local go_sem] max2_int min2_int max_two min_two max_three min_three max_four min_four   -- for this text's walks alone
set_option linter.unusedVariables false
set_option linter.unusedSimpArgs false
def weld_Of.f (l0 : List Int) : Option (Int × Int × Int × Int × ByteArray × ByteArray) := if (l0.length : Int) > 268435456 then (some (0, 0, 0, 0, (⟨#[]⟩ : ByteArray), (⟨#[]⟩ : ByteArray))) else ((weld_Sizes.f l0).bind fun bt102 => (if 0 ≤ (mn 3 (l0.length : Int)) then (if (mn 3 (l0.length : Int)) ≤ (l0.length : Int) then (if 0 ≤ (mx 0 (wrap64 ((l0.length : Int) - 3))) then (if (mx 0 (wrap64 ((l0.length : Int) - 3))) ≤ (l0.length : Int) then (some (bt102.1, bt102.2.1, bt102.2.2.1, bt102.2.2.2, strOfNums (l0.take ((mn 3 (l0.length : Int)) : Int).toNat), strOfNums (l0.drop ((mx 0 (wrap64 ((l0.length : Int) - 3))) : Int).toNat))) else (none)) else (none)) else (none)) else (none)))
def weld_Of.T3 : Bool × List (List Nat × List Nat) := (true, [([], []), ([0], [0]), ([], []), ([], []), ([3], [3]), ([4], [4]), ([2, 5], [2, 5]), ([6], [6]), ([], []), ([], []), ([9], [9]), ([10], [10]), ([11], [11]), ([8, 12], [8, 12]), ([13], [13]), ([1, 7, 14], [1, 7, 14]), ([15, 1, 0, 1, 2, 3, 4, 5, 6, 7, 8, 9, 10, 11, 12, 13, 14, 15], [15])])
def weld_Of.B3 : List Nat := [0, 1, 0, 0, 8, 24, 60, 124, 0, 0, 512, 1536, 3584, 7936, 16128, 32767, 65535]
theorem weld_Of.tab3 : rtab .any (opsOf Tryd.f20 3) = weld_Of.T3 := by kernel_rfl
theorem weld_Of.bits3 : waitsOk weld_Of.T3.2 weld_Of.B3 = true := by kernel_rfl
set_option maxHeartbeats 8000000 in
set_option maxRecDepth 100000 in
theorem weld_Of.calls (A0 : Option Addr) (c0 : Nat) (l0 : List Int) (r1 : Int) (r2 : Int) (r3 : Int) (r4 : Int) (r5 : ByteArray) (r6 : ByteArray) (w : World) (hG : Glob.Globs w) (hr0 : Kd.C (Kd.int .u8) w A0 l0.length l0) (hc0 : l0.length ≤ c0) (h : weld_Of.f l0 = some (r1, r2, r3, r4, r5, r6)) :
  Calls Tryd.prog 20 #[.slice A0 l0.length c0] w fun e w' => e = .returned (.agg #[.int .i64 r1, .int .i64 r2, .int .i64 r3, .int .i64 r4, .string r5, .string r6]) ∧ Below w.heap.size w w' := by
 have hu36 := Tryd.underlying36
 have HG := Aside0.mk hG; clear hG; have HR0 := Aside0.mk hr0; have HC0 := Aside0.mk hc0; clear hr0 hc0
 have HB := Aside0.mk (Below.refl w.heap.size w)
 have H : (if (l0.length : Int) > 268435456 then (some (0, 0, 0, 0, (⟨#[]⟩ : ByteArray), (⟨#[]⟩ : ByteArray))) else ((weld_Sizes.f l0).bind fun bt102 => (if 0 ≤ (mn 3 (l0.length : Int)) then (if (mn 3 (l0.length : Int)) ≤ (l0.length : Int) then (if 0 ≤ (mx 0 (wrap64 ((l0.length : Int) - 3))) then (if (mx 0 (wrap64 ((l0.length : Int) - 3))) ≤ (l0.length : Int) then (some (bt102.1, bt102.2.1, bt102.2.2.1, bt102.2.2.2, strOfNums (l0.take ((mn 3 (l0.length : Int)) : Int).toNat), strOfNums (l0.drop ((mx 0 (wrap64 ((l0.length : Int) - 3))) : Int).toNat))) else (none)) else (none)) else (none)) else (none)))) = some (r1, r2, r3, r4, r5, r6) := h
 clear h
 by_cases c2 : (l0.length : Int) > 268435456
 ·rw [if_pos c2] at H
  have c2b0 : decide (268435456 < (l0.length : Int)) = true := decide_eq_true c2
  have c2b1 : decide (268435456 < l0.length) = true := decide_eq_true (by omega)
  clear c2
  simp only [Option.some.injEq, Prod.mk.injEq] at H
  obtain ⟨rfl, rfl, rfl, rfl, rfl, rfl⟩ := H
  go_enter Tryd.func20, Tryd.ntmps20
  go_wp2_with (first | ((with_reducible refine gate_dst (N := 2) rfl ?_); refine box_event ?hg (N := 2) ?hd (cs := #[.int .i64 0, .int .i64 0, .int .i64 0, .int .i64 0, .string (⟨#[]⟩ : ByteArray), .string (⟨#[]⟩ : ByteArray)]) (t := 36) ?hr ?_; (case hd => rfl); (case hg => rfl); (case hr => first | (go_simp; done) | (go_simp; rfl)); intro gb101 hg w3 hbox hb; have n0_ := Aside0.mk (below_step (bl HB.out) hb); have n1_ := Aside0.mk (hbox); have n2_ := Aside0.mk ((by rw [hg]; exact (below_size (bl HB.out)) : w.heap.size ≤ gb101)); have n3_ := Aside0.mk ((by rw [hg]; exact (below_size (bl HB.out)) : w.heap.size ≤ gb101)); clear HB; have HB := n0_; have BK101 := n1_; have GW101 := n2_; have GE101 := n3_; clear n0_ n1_ n2_ n3_; clear hb hbox hg; obtain ⟨hcz4_0, hcz4_1, hcz4_2, hcz4_3, hcz4_4, hcz4_5⟩ := cl6 BK101.out; obtain ⟨hfz4_0, hfz4_1, hfz4_2, hfz4_3, hfz4_4, hfz4_5⟩ := fl6 BK101.out))
  refine bodyPost_ret (results_cell_row rfl _ _ gb101 36 #[.int .i64 0, .int .i64 0, .int .i64 0, .int .i64 0, .string (⟨#[]⟩ : ByteArray), .string (⟨#[]⟩ : ByteArray)] (0, 0) _ rfl (by refine pl ?_; refine blk_put (cs := #[.int .i64 0, .int .i64 0, .int .i64 0, .int .i64 0, .string (⟨#[]⟩ : ByteArray), .string (⟨#[]⟩ : ByteArray)]) ?_ 5 _ rfl; refine pl ?_; refine blk_put (cs := #[.int .i64 0, .int .i64 0, .int .i64 0, .int .i64 0, .string (⟨#[]⟩ : ByteArray), .string (⟨#[]⟩ : ByteArray)]) ?_ 4 _ rfl; refine pl ?_; refine blk_put (cs := #[.int .i64 0, .int .i64 0, .int .i64 0, .int .i64 0, .string (⟨#[]⟩ : ByteArray), .string (⟨#[]⟩ : ByteArray)]) ?_ 3 _ rfl; refine pl ?_; refine blk_put (cs := #[.int .i64 0, .int .i64 0, .int .i64 0, .int .i64 0, .string (⟨#[]⟩ : ByteArray), .string (⟨#[]⟩ : ByteArray)]) ?_ 2 _ rfl; refine pl ?_; refine blk_put (cs := #[.int .i64 0, .int .i64 0, .int .i64 0, .int .i64 0, .string (⟨#[]⟩ : ByteArray), .string (⟨#[]⟩ : ByteArray)]) ?_ 1 _ rfl; refine pl ?_; refine blk_put (cs := #[.int .i64 0, .int .i64 0, .int .i64 0, .int .i64 0, .string (⟨#[]⟩ : ByteArray), .string (⟨#[]⟩ : ByteArray)]) ?_ 0 _ rfl; refine pl ?_; exact BK101.out) Tryd.underlying36 rfl (by kernel_rfl)) rfl ?_
  exact ⟨by first | rfl | (simp [errW_none, errW_some] <;> rfl) | (simp [*, errW_none, errW_some] <;> rfl), by repeat (first | (with_reducible first | exact HB.out | apply below_alloc | apply pw_below_drewN | apply below_drew1 | refine below_set ?_ GE101.out) | exact HB.out)⟩
 ·rw [if_neg c2] at H
  have c2b0 : decide (268435456 < (l0.length : Int)) = false := decide_eq_false c2
  have c2b1 : decide (268435456 < l0.length) = false := decide_eq_false (by omega)
  clear c2
  replace H := Option.bind_eq_some_iff.mp H
  obtain ⟨⟨t102, t103, t104, t105⟩, A50, H⟩ := H
  have A5 := Aside0.mk A50; clear A50
  obtain ⟨ji6, hji6⟩ : ∃ j_ : Int, (mn 3 (l0.length : Int)) = j_ := ⟨_, rfl⟩
  replace H : (if 0 ≤ (ji6) then (if (ji6) ≤ (l0.length : Int) then (if 0 ≤ (mx 0 (wrap64 ((l0.length : Int) - 3))) then (if (mx 0 (wrap64 ((l0.length : Int) - 3))) ≤ (l0.length : Int) then (some (t102, t103, t104, t105, strOfNums (l0.take ((ji6) : Int).toNat), strOfNums (l0.drop ((mx 0 (wrap64 ((l0.length : Int) - 3))) : Int).toNat))) else (none)) else (none)) else (none)) else (none)) = some (r1, r2, r3, r4, r5, r6) := by first | (rw [hji6] at H; exact H) | (simp only [hji6] at H ⊢; exact H)
  (try rw [hji6] at A5)
  (try (have hji6h : ji6 ≤ 3 := by (rw [← hji6]; unfold mn; (repeat' split) <;> omega)))
  (try (have hji6g : ji6 ≤ 64 := by omega))
  (try (have hji6l : 0 ≤ ji6 := by (rw [← hji6]; unfold mn; (repeat' split) <;> omega)))
  (try (have hji6m : 0 ≤ ji6 := by omega))
  have hji6_ : (if (l0.length : Int) < 3 then (l0.length : Int) else 3) = ji6 := hji6
  by_cases c7 : 0 ≤ (ji6)
  ·rw [if_pos c7] at H
   have c7b0 := eq_true c7
   have c7b1 : decide (0 ≤ (ji6)) = true := decide_eq_true c7
   clear c7
   by_cases c8 : (ji6) ≤ (l0.length : Int)
   ·rw [if_pos c8] at H
    have c8b0 := eq_true c8
    have c8b1 : decide ((ji6) ≤ (l0.length : Int)) = true := decide_eq_true c8
    clear c8
    obtain ⟨ji9, hji9⟩ : ∃ j_ : Int, (mx 0 (wrap64 ((l0.length : Int) - 3))) = j_ := ⟨_, rfl⟩
    replace H : (if 0 ≤ (ji9) then (if (ji9) ≤ (l0.length : Int) then (some (t102, t103, t104, t105, strOfNums (l0.take ((ji6) : Int).toNat), strOfNums (l0.drop ((ji9) : Int).toNat))) else (none)) else (none)) = some (r1, r2, r3, r4, r5, r6) := by first | (rw [hji9] at H; exact H) | (simp only [hji9] at H ⊢; exact H)
    (try rw [hji9] at A5)
    (try (have hji9l : 0 ≤ ji9 := by (rw [← hji9]; unfold mx; (repeat' split) <;> omega)))
    (try (have hji9m : 0 ≤ ji9 := by omega))
    have hji9_ : (if 0 < (wrap64 ((l0.length : Int) - 3)) then (wrap64 ((l0.length : Int) - 3)) else 0) = ji9 := hji9
    by_cases c10 : 0 ≤ (ji9)
    ·rw [if_pos c10] at H
     have c10b0 := eq_true c10
     have c10b1 : decide (0 ≤ (ji9)) = true := decide_eq_true c10
     clear c10
     by_cases c11 : (ji9) ≤ (l0.length : Int)
     ·rw [if_pos c11] at H
      have c11b0 := eq_true c11
      have c11b1 : decide ((ji9) ≤ (l0.length : Int)) = true := decide_eq_true c11
      clear c11
      simp only [Option.some.injEq, Prod.mk.injEq] at H
      obtain ⟨rfl, rfl, rfl, rfl, rfl, rfl⟩ := H
      go_enter Tryd.func20, Tryd.ntmps20
      try go_wp2_with (first | ((with_reducible refine gate_dst (N := 2) rfl ?_); refine box_event ?hg (N := 2) ?hd (cs := #[.int .i64 0, .int .i64 0, .int .i64 0, .int .i64 0, .string (⟨#[]⟩ : ByteArray), .string (⟨#[]⟩ : ByteArray)]) (t := 36) ?hr ?_; (case hd => rfl); (case hg => rfl); (case hr => first | (go_simp; done) | (go_simp; rfl)); intro gb101 hg w12 hbox hb; have n0_ := Aside0.mk (below_step (bl HB.out) hb); have n1_ := Aside0.mk (hbox); have n2_ := Aside0.mk ((by rw [hg]; exact (below_size (bl HB.out)) : w.heap.size ≤ gb101)); have n3_ := Aside0.mk ((by rw [hg]; exact (below_size (bl HB.out)) : w.heap.size ≤ gb101)); clear HB; have HB := n0_; have BK101 := n1_; have GW101 := n2_; have GE101 := n3_; clear n0_ n1_ n2_ n3_; clear hb hbox hg))
      have n0_ := Aside0.mk (blk_drew BK101.out)
      have n1_ := Aside0.mk (below_drew1 HB.out)
      clear BK101; clear HB; have BK101 := n0_; have HB := n1_; clear n0_ n1_
      obtain ⟨i014, hi014, _, hsz14, _⟩ := info_parts info5
      obtain ⟨hcut14, hA14, hC14⟩ := print_take_of (P := Tryd.prog) (Value.int .u8) 0 26 5 .i64 Tryd.underlying26 hi014 hsz14 A0 c0 l0 (ji6) (of_decide_eq_true (by first | (with_reducible assumption) | assumption)) (of_decide_eq_true (by first | (with_reducible assumption) | assumption)) HC0.out
      have HR106 := Aside0.mk (Kd.C_of_reads (h1 := fun _ => rfl) (hA14 _ (Kd.reads_of_C HR0.out)))
      have HC106 := Aside0.mk hC14; clear hA14 hC14 hi014 hsz14
      obtain ⟨i015, hi015, _, hsz15, _⟩ := info_parts info5
      obtain ⟨A15, hcut15, hA15, hC15⟩ := print_drop_of (P := Tryd.prog) (Value.int .u8) 0 26 5 .i64 Tryd.underlying26 hi015 hsz15 A0 c0 l0 (ji9) (of_decide_eq_true (by first | (with_reducible assumption) | assumption)) (of_decide_eq_true (by first | (with_reducible assumption) | assumption)) HC0.out
      have HR107 := Aside0.mk (Kd.C_of_reads (h1 := fun _ => rfl) (hA15 _ (Kd.reads_of_C HR0.out)))
      have HC107 := Aside0.mk hC15; clear hA15 hC15 hi015 hsz15
      have cvA : ∀ W_ : World, Below w.heap.size w W_ → Sem.run Tryd.prog (convert 26 9 (.slice A0 ji6.toNat c0)) W_ = .ok (.string (strOfNums (l0.take ji6.toNat))) W_ := fun W_ hb_ => by have e_ : (l0.take ji6.toNat).length = ji6.toNat := by { have z_ : ji6 ≤ (l0.length : Int) := of_decide_eq_true (by assumption); rw [List.length_take]; omega }; have z_ := Kd.C_string (P := Tryd.prog) (A := A0) (c := c0) Tryd.underlying26 Tryd.underlying5 Tryd.underlying9 (Kd.C_below HR106.out hb_); rw [e_] at z_; exact z_
      have cvB : ∀ W_ : World, Below w.heap.size w W_ → Sem.run Tryd.prog (convert 26 9 (.slice A15 (l0.length - ji9.toNat) ((c0 - (ji9).toNat)))) W_ = .ok (.string (strOfNums (l0.drop ji9.toNat))) W_ := fun W_ hb_ => by have z_ := Kd.C_string (P := Tryd.prog) (A := A15) (c := (c0 - (ji9).toNat)) Tryd.underlying26 Tryd.underlying5 Tryd.underlying9 (Kd.C_below HR107.out hb_); rw [List.length_drop] at z_; exact z_
      have CVA := Aside0.mk cvA; have CVB := Aside0.mk cvB; clear cvA cvB
      refine start_ (n := 17) (S := fun w' => Sem.run Tryd.prog (convert 26 9 (.slice A0 ji6.toNat c0)) w' = .ok (.string (strOfNums (l0.take ji6.toNat))) w' ∧ Sem.run Tryd.prog (convert 26 9 (.slice A15 (l0.length - ji9.toNat) ((c0 - (ji9).toNat)))) w' = .ok (.string (strOfNums (l0.drop ji9.toNat))) w') (ds := []) #[false, false, false, false, false, false, false, false, false, false, false, false, false, false, false, false, false] (by kernel_rfl) rfl rfl ⟨CVA.out _ (by repeat (first | (with_reducible first | exact HB.out | apply below_alloc | apply pw_below_drewN | apply below_drew1 | apply below_drew | refine below_set ?_ GE101.out) | exact HB.out)), CVB.out _ (by repeat (first | (with_reducible first | exact HB.out | apply below_alloc | apply pw_below_drewN | apply below_drew1 | apply below_drew | refine below_set ?_ GE101.out) | exact HB.out))⟩ (fun hHeld => ?_); refine with_tabW weld_Of.tab3 weld_Of.bits3 (fun HT_ HW_ => ?_)
      generalize w12.drew = w13 at BK101 HB HR106 HR107 hHeld ⊢
      refine pure_ (i := 0) (N := some 7) (v := ?_) (a' := ?_) #[true, false, false, false, false, false, false, false, false, false, false, false, false, false, false, false, false] rfl rfl (any_of HT_.out (by kernel_rfl)) (fun _ _ _ h => h) (Or.inl ⟨by rfl, ?_⟩) ?_ ?_
      rotate_left
      ·intro w'
       go_simp
       with_reducible rfl
      rotate_left
      ·simp only [Act.put, List.setIfInBounds_toArray, List.set_cons_zero, List.set_cons_succ, i64_w, i32_w]
       rfl
      refine pure_ (i := 2) (N := some 9) (v := ?_) (a' := ?_) #[true, false, true, false, false, false, false, false, false, false, false, false, false, false, false, false, false] rfl rfl (any_of HT_.out (by kernel_rfl)) (fun _ _ _ h => h) (Or.inl ⟨by rfl, ?_⟩) ?_ ?_
      rotate_left
      ·intro w'
       go_simp
       with_reducible rfl
      rotate_left
      ·simp only [Act.put, List.setIfInBounds_toArray, List.set_cons_zero, List.set_cons_succ, i64_w, i32_w]
       rfl
      refine pure_ (i := 3) (N := some 10) (v := ?_) (a' := ?_) #[true, false, true, true, false, false, false, false, false, false, false, false, false, false, false, false, false] rfl rfl (any_of HT_.out (by kernel_rfl)) (fun _ _ _ h => h) (Or.inl ⟨by rfl, ?_⟩) ?_ ?_
      rotate_left
      ·intro w'
       go_simp
       with_reducible rfl
      rotate_left
      ·simp only [Act.put, List.setIfInBounds_toArray, List.set_cons_zero, List.set_cons_succ, i64_w, i32_w]
       rfl
      refine pure_ (i := 4) (N := some 11) (v := ?_) (a' := ?_) #[true, false, true, true, true, false, false, false, false, false, false, false, false, false, false, false, false] rfl rfl (any_of HT_.out (by kernel_rfl)) (fun _ _ _ h => h) (Or.inl ⟨by rfl, ?_⟩) ?_ ?_
      rotate_left
      ·intro w'
       go_simp
       with_reducible rfl
      rotate_left
      ·simp only [Act.put, List.setIfInBounds_toArray, List.set_cons_zero, List.set_cons_succ, i64_w, i32_w]
       rfl
      refine pure_ (i := 5) (N := some 12) (v := ?_) (a' := ?_) #[true, false, true, true, true, true, false, false, false, false, false, false, false, false, false, false, false] rfl rfl (any_of HT_.out (by kernel_rfl)) (fun _ _ _ h => h) (Or.inl ⟨by rfl, ?_⟩) ?_ ?_
      rotate_left
      ·intro w'
       go_simp
       with_reducible rfl
      rotate_left
      ·simp only [Act.put, List.setIfInBounds_toArray, List.set_cons_zero, List.set_cons_succ, i64_w, i32_w]
       rfl
      refine pure_ (i := 6) (N := some 13) (v := ?_) (a' := ?_) #[true, false, true, true, true, true, true, false, false, false, false, false, false, false, false, false, false] rfl rfl (any_of HT_.out (by kernel_rfl)) (fun _ _ _ h => h) (Or.inl ⟨by rfl, ?_⟩) ?_ ?_
      rotate_left
      ·intro w'
       go_simp
       with_reducible rfl
      rotate_left
      ·simp only [Act.put, List.setIfInBounds_toArray, List.set_cons_zero, List.set_cons_succ, i64_w, i32_w]
       rfl
      refine take_ (i := 7) (N := some 14) (v := ?_) (a' := ?_) #[true, false, true, true, true, true, true, true, false, false, false, false, false, false, false, false, false] rfl rfl (by kernel_rfl) (fun _ _ _ h => h) (Or.inl ⟨by rfl, ?_⟩) hHeld ?_ ?_
      rotate_left
      ·rintro w' ⟨cv1_, cv2_⟩
       go_simp
       with_reducible rfl
      rotate_left
      ·simp only [Act.put, List.setIfInBounds_toArray, List.set_cons_zero, List.set_cons_succ, i64_w, i32_w]
       rfl
      refine pure_ (i := 8) (N := some 15) (v := ?_) (a' := ?_) #[true, false, true, true, true, true, true, true, true, false, false, false, false, false, false, false, false] rfl rfl (any_of HT_.out (by kernel_rfl)) (fun _ _ _ h => h) (Or.inl ⟨by rfl, ?_⟩) ?_ ?_
      rotate_left
      ·intro w'
       go_simp
       with_reducible rfl
      rotate_left
      ·simp only [Act.put, List.setIfInBounds_toArray, List.set_cons_zero, List.set_cons_succ, i64_w, i32_w]
       rfl
      refine pure_ (i := 9) (N := some 16) (v := ?_) (a' := ?_) #[true, false, true, true, true, true, true, true, true, true, false, false, false, false, false, false, false] rfl rfl (any_of HT_.out (by kernel_rfl)) (fun _ _ _ h => h) (Or.inl ⟨by rfl, ?_⟩) ?_ ?_
      rotate_left
      ·intro w'
       go_simp
       with_reducible rfl
      rotate_left
      ·simp only [Act.put, List.setIfInBounds_toArray, List.set_cons_zero, List.set_cons_succ, i64_w, i32_w]
       rfl
      refine pure_ (i := 10) (N := some 17) (v := ?_) (a' := ?_) #[true, false, true, true, true, true, true, true, true, true, true, false, false, false, false, false, false] rfl rfl (any_of HT_.out (by kernel_rfl)) (fun _ _ _ h => h) (Or.inl ⟨by rfl, ?_⟩) ?_ ?_
      rotate_left
      ·intro w'
       go_simp
       with_reducible rfl
      rotate_left
      ·simp only [Act.put, List.setIfInBounds_toArray, List.set_cons_zero, List.set_cons_succ, i64_w, i32_w]
       rfl
      refine pure_ (i := 11) (N := some 18) (v := ?_) (a' := ?_) #[true, false, true, true, true, true, true, true, true, true, true, true, false, false, false, false, false] rfl rfl (any_of HT_.out (by kernel_rfl)) (fun _ _ _ h => h) (Or.inl ⟨by rfl, ?_⟩) ?_ ?_
      rotate_left
      ·intro w'
       go_simp
       with_reducible rfl
      rotate_left
      ·simp only [Act.put, List.setIfInBounds_toArray, List.set_cons_zero, List.set_cons_succ, i64_w, i32_w]
       rfl
      refine pure_ (i := 12) (N := some 19) (v := ?_) (a' := ?_) #[true, false, true, true, true, true, true, true, true, true, true, true, true, false, false, false, false] rfl rfl (any_of HT_.out (by kernel_rfl)) (fun _ _ _ h => h) (Or.inl ⟨by rfl, ?_⟩) ?_ ?_
      rotate_left
      ·intro w'
       go_simp
       with_reducible rfl
      rotate_left
      ·simp only [Act.put, List.setIfInBounds_toArray, List.set_cons_zero, List.set_cons_succ, i64_w, i32_w]
       rfl
      refine pure_ (i := 13) (N := some 20) (v := ?_) (a' := ?_) #[true, false, true, true, true, true, true, true, true, true, true, true, true, true, false, false, false] rfl rfl (any_of HT_.out (by kernel_rfl)) (fun _ _ _ h => h) (Or.inl ⟨by rfl, ?_⟩) ?_ ?_
      rotate_left
      ·intro w'
       go_simp
       with_reducible rfl
      rotate_left
      ·simp only [Act.put, List.setIfInBounds_toArray, List.set_cons_zero, List.set_cons_succ, i64_w, i32_w]
       rfl
      refine take_ (i := 14) (N := some 21) (v := ?_) (a' := ?_) #[true, false, true, true, true, true, true, true, true, true, true, true, true, true, true, false, false] rfl rfl (by kernel_rfl) (fun _ _ _ h => h) (Or.inl ⟨by rfl, ?_⟩) hHeld ?_ ?_
      rotate_left
      ·rintro w' ⟨cv1_, cv2_⟩
       go_simp
       with_reducible rfl
      rotate_left
      ·simp only [Act.put, List.setIfInBounds_toArray, List.set_cons_zero, List.set_cons_succ, i64_w, i32_w]
       rfl
      refine one_ (i := 1) (N := some 8) #[true, true, true, true, true, true, true, true, true, true, true, true, true, true, true, false, false] rfl rfl (one_of HT_.out (by kernel_rfl)) (by decide) (fun K hK => ?_)
      refine goes_ Tryd.func33 (by kernel_rfl) rfl #[.slice A0 l0.length c0] (by rfl) rfl rfl (by (try simp only [List.map_toArray, List.map_cons, List.map_nil]); first | done | rfl | (simp only [List.length_drop, List.length_take]; rfl)) ?_
      with_reducible refine (weld_Sizes.calls _ _ l0 t102 t103 t104 t105 _ ?side1 ?side2 ?side3 A5.out).mono ?_
      (case side1 => first | (with_reducible exact HG.out) | exact Glob.Globs_below HG.out (by repeat (first | (with_reducible first | exact HB.out | apply below_alloc | apply pw_below_drewN | apply below_drew1 | refine below_set ?_ GE101.out) | exact HB.out)))
      (case side2 => repeat (first | exact (Kd.C_below HR0.out HB.out) | (with_reducible refine Kd.C_alloc ?_ _) | (with_reducible refine Kd.C_drewN ?_ _) | (with_reducible refine Kd.C_drew ?_)))
      (case side3 => exact HC0.out)
      rintro e w16 ⟨rfl, hb⟩
      refine ⟨_, rfl, ?_⟩
      have n0_ := Aside0.mk (blk_below (pl BK101.out) hb)
      have n1_ := Aside0.mk (below_step (by repeat (first | (with_reducible first | exact HB.out | apply below_alloc | apply pw_below_drewN | apply below_drew1 | refine below_set ?_ GE101.out) | exact HB.out)) hb)
      clear BK101; clear HB; have BK101 := n0_; have HB := n1_; clear n0_ n1_
      (try clear hb)
      (try clear hb2)
      (try clear hk)
      (try clear hi)
      refine hK.out _ _ ⟨CVA.out _ (by repeat (first | (with_reducible first | exact HB.out | apply below_alloc | apply pw_below_drewN | apply below_drew1 | apply below_drew | refine below_set ?_ GE101.out) | exact HB.out)), CVB.out _ (by repeat (first | (with_reducible first | exact HB.out | apply below_alloc | apply pw_below_drewN | apply below_drew1 | apply below_drew | refine below_set ?_ GE101.out) | exact HB.out))⟩ (fun hHeld => ?_)
      clear hK K
      refine norm_ (a' := ?_) ?_ ?_
      rotate_left
      ·show Act.put _ (some 8) _ = _
       simp only [Act.put, List.setIfInBounds_toArray, List.set_cons_zero, List.set_cons_succ, i64_w, i32_w]
       rfl
      refine pure_ (i := 15) (N := some 22) (v := ?_) (a' := ?_) #[true, true, true, true, true, true, true, true, true, true, true, true, true, true, true, true, false] rfl rfl (any_of HT_.out (by kernel_rfl)) (fun _ _ _ h => h) (Or.inl ⟨by rfl, ?_⟩) ?_ ?_
      rotate_left
      ·intro w'
       go_simp
       with_reducible rfl
      rotate_left
      ·simp only [Act.put, List.setIfInBounds_toArray, List.set_cons_zero, List.set_cons_succ, i64_w, i32_w]
       rfl
      refine one_ (i := 16) (N := none) #[true, true, true, true, true, true, true, true, true, true, true, true, true, true, true, true, true] rfl rfl (one_of HT_.out (by kernel_rfl)) (by decide) (fun K hK => ?_)
      have hs20 : w16.cell? ⟨gb101, 0, none⟩ = some (.int .i64 0) := (blk_cell BK101.out 0).trans rfl
      have hfs20 := blk_frozen BK101.out 0
      have hs21 : w16.cell? ⟨gb101, 1, none⟩ = some (.int .i64 0) := (blk_cell BK101.out 1).trans rfl
      have hfs21 := blk_frozen BK101.out 1
      have hs22 : w16.cell? ⟨gb101, 2, none⟩ = some (.int .i64 0) := (blk_cell BK101.out 2).trans rfl
      have hfs22 := blk_frozen BK101.out 2
      have hs23 : w16.cell? ⟨gb101, 3, none⟩ = some (.int .i64 0) := (blk_cell BK101.out 3).trans rfl
      have hfs23 := blk_frozen BK101.out 3
      have hs24 : w16.cell? ⟨gb101, 4, none⟩ = some (.string (⟨#[]⟩ : ByteArray)) := (blk_cell BK101.out 4).trans rfl
      have hfs24 := blk_frozen BK101.out 4
      have hs25 : w16.cell? ⟨gb101, 5, none⟩ = some (.string (⟨#[]⟩ : ByteArray)) := (blk_cell BK101.out 5).trans rfl
      have hfs25 := blk_frozen BK101.out 5
      refine skip_ (w1 := ?_) (by rfl) rfl ?_ ?_
      rotate_left
      ·go_simp
       rfl
      refine hK.out _ _ ⟨CVA.out _ (by repeat (first | (with_reducible first | exact HB.out | apply below_alloc | apply pw_below_drewN | apply below_drew1 | apply below_drew | refine below_set ?_ GE101.out) | exact HB.out)), CVB.out _ (by repeat (first | (with_reducible first | exact HB.out | apply below_alloc | apply pw_below_drewN | apply below_drew1 | apply below_drew | refine below_set ?_ GE101.out) | exact HB.out))⟩ (fun hHeld => ?_)
      clear hK K
      refine done_ (done_of HT_.out (by kernel_rfl)) ?_
      try go_wp2
      refine bodyPost_ret (results_cell_row rfl _ _ gb101 36 #[.int .i64 t102, .int .i64 t103, .int .i64 t104, .int .i64 t105, .string (strOfNums (l0.take ((ji6) : Int).toNat)), .string (strOfNums (l0.drop ((ji9) : Int).toNat))] (0, 0) _ rfl (by refine pl ?_; refine blk_put (cs := #[.int .i64 t102, .int .i64 t103, .int .i64 t104, .int .i64 t105, .string (strOfNums (l0.take ((ji6) : Int).toNat)), .string (⟨#[]⟩ : ByteArray)]) ?_ 5 _ rfl; refine pl ?_; refine blk_put (cs := #[.int .i64 t102, .int .i64 t103, .int .i64 t104, .int .i64 t105, .string (⟨#[]⟩ : ByteArray), .string (⟨#[]⟩ : ByteArray)]) ?_ 4 _ rfl; refine pl ?_; refine blk_put (cs := #[.int .i64 t102, .int .i64 t103, .int .i64 t104, .int .i64 0, .string (⟨#[]⟩ : ByteArray), .string (⟨#[]⟩ : ByteArray)]) ?_ 3 _ rfl; refine pl ?_; refine blk_put (cs := #[.int .i64 t102, .int .i64 t103, .int .i64 0, .int .i64 0, .string (⟨#[]⟩ : ByteArray), .string (⟨#[]⟩ : ByteArray)]) ?_ 2 _ rfl; refine pl ?_; refine blk_put (cs := #[.int .i64 t102, .int .i64 0, .int .i64 0, .int .i64 0, .string (⟨#[]⟩ : ByteArray), .string (⟨#[]⟩ : ByteArray)]) ?_ 1 _ rfl; refine pl ?_; refine blk_put (cs := #[.int .i64 0, .int .i64 0, .int .i64 0, .int .i64 0, .string (⟨#[]⟩ : ByteArray), .string (⟨#[]⟩ : ByteArray)]) ?_ 0 _ rfl; refine pl ?_; exact BK101.out) Tryd.underlying36 rfl (by kernel_rfl)) rfl ?_
      exact ⟨by first | rfl | (simp [errW_none, errW_some] <;> rfl) | (simp only [← hji6, ← hji9]; first | rfl | (simp [errW_none, errW_some] <;> rfl)) | (simp [*, errW_none, errW_some] <;> rfl), by repeat (first | (with_reducible first | exact HB.out | apply below_alloc | apply pw_below_drewN | apply below_drew1 | refine below_set ?_ GE101.out) | exact HB.out)⟩
     ·rw [if_neg c11] at H
      exact absurd H (by simp)
    ·rw [if_neg c10] at H
     exact absurd H (by simp)
   ·rw [if_neg c8] at H
    exact absurd H (by simp)
  ·rw [if_neg c7] at H
   exact absurd H (by simp)

-- NOT PRINTED: function 27 (leaf_made)

-- NOT PRINTED: function 10 (leaf_New)
end Go.Proofs.YteoonhidjldnfaaDoor.Pr

namespace Go.Proofs.YteoonhidjldnfaaDoor.Pr
open Go.RowKit Go.Proofs.YteoonhidjldnfaaDoorW.PrintWords Go.Proofs.YteoonhidjldnfaaDoorW.PrintLast Go.Proofs.YteoonhidjldnfaaDoorW.PrintMore
attribute [local go_sem] max2_int min2_int max_two min_two max_three min_three max_four min_four   -- for this text's walks alone
set_option linter.unusedVariables false
set_option linter.unusedSimpArgs false
def galleyref05_head.f (a0 : ByteArray) : Option (ByteArray) := if 0 ≤ (mn 3 (a0.size : Int)) then (if (mn 3 (a0.size : Int)) ≤ (a0.size : Int) then (some (a0.extract 0 ((mn 3 (a0.size : Int)) : Int).toNat)) else (none)) else (none)
set_option maxHeartbeats 8000000 in
set_option maxRecDepth 100000 in
theorem galleyref05_head.calls (a0 : ByteArray) (r : ByteArray) (w : World) (h : galleyref05_head.f a0 = some r) :
  Calls Tryd.prog 34 #[.string a0] w fun e w' => e = .returned (.string r) ∧ Below w.heap.size w w' := by
 have HB := Aside0.mk (Below.refl w.heap.size w)
 have H : (if 0 ≤ (mn 3 (a0.size : Int)) then (if (mn 3 (a0.size : Int)) ≤ (a0.size : Int) then (some (a0.extract 0 ((mn 3 (a0.size : Int)) : Int).toNat)) else (none)) else (none)) = some r := h
 clear h
 obtain ⟨ji2, hji2⟩ : ∃ j_ : Int, (mn 3 (a0.size : Int)) = j_ := ⟨_, rfl⟩
 replace H : (if 0 ≤ (ji2) then (if (ji2) ≤ (a0.size : Int) then (some (a0.extract 0 ((ji2) : Int).toNat)) else (none)) else (none)) = some r := by first | (rw [hji2] at H; exact H) | (simp only [hji2] at H ⊢; exact H)
 (try (have hji2h : ji2 ≤ 3 := by (rw [← hji2]; unfold mn; (repeat' split) <;> omega)))
 (try (have hji2g : ji2 ≤ 64 := by omega))
 (try (have hji2l : 0 ≤ ji2 := by (rw [← hji2]; unfold mn; (repeat' split) <;> omega)))
 (try (have hji2m : 0 ≤ ji2 := by omega))
 have hji2_ : (if (a0.size : Int) < 3 then (a0.size : Int) else 3) = ji2 := hji2
 by_cases c3 : 0 ≤ (ji2)
 ·rw [if_pos c3] at H
  have c3b0 := eq_true c3
  have c3b1 : decide (0 ≤ (ji2)) = true := decide_eq_true c3
  clear c3
  by_cases c4 : (ji2) ≤ (a0.size : Int)
  ·rw [if_pos c4] at H
   have c4b0 := eq_true c4
   have c4b1 : decide ((ji2) ≤ (a0.size : Int)) = true := decide_eq_true c4
   clear c4
   obtain rfl := Option.some.inj H
   go_enter Tryd.func34, Tryd.ntmps34
   go_wp2
   go_ret
   exact ⟨by first | rfl | (simp [errW_none, errW_some] <;> rfl) | (simp only [← hji2]; first | rfl | (simp [errW_none, errW_some] <;> rfl)) | (simp [*, errW_none, errW_some] <;> rfl), bl HB.out⟩
  ·rw [if_neg c4] at H
   exact absurd H (by simp)
 ·rw [if_neg c3] at H
  exact absurd H (by simp)
def galleyref05_tail.f (a0 : ByteArray) : Option (ByteArray) := if 0 ≤ (mx 0 (wrap64 ((a0.size : Int) - 3))) then (if (mx 0 (wrap64 ((a0.size : Int) - 3))) ≤ (a0.size : Int) then (some (a0.extract ((mx 0 (wrap64 ((a0.size : Int) - 3))) : Int).toNat a0.size)) else (none)) else (none)
set_option maxHeartbeats 8000000 in
set_option maxRecDepth 100000 in
theorem galleyref05_tail.calls (a0 : ByteArray) (r : ByteArray) (w : World) (h : galleyref05_tail.f a0 = some r) :
  Calls Tryd.prog 35 #[.string a0] w fun e w' => e = .returned (.string r) ∧ Below w.heap.size w w' := by
 have HB := Aside0.mk (Below.refl w.heap.size w)
 have H : (if 0 ≤ (mx 0 (wrap64 ((a0.size : Int) - 3))) then (if (mx 0 (wrap64 ((a0.size : Int) - 3))) ≤ (a0.size : Int) then (some (a0.extract ((mx 0 (wrap64 ((a0.size : Int) - 3))) : Int).toNat a0.size)) else (none)) else (none)) = some r := h
 clear h
 obtain ⟨ji2, hji2⟩ : ∃ j_ : Int, (mx 0 (wrap64 ((a0.size : Int) - 3))) = j_ := ⟨_, rfl⟩
 replace H : (if 0 ≤ (ji2) then (if (ji2) ≤ (a0.size : Int) then (some (a0.extract ((ji2) : Int).toNat a0.size)) else (none)) else (none)) = some r := by first | (rw [hji2] at H; exact H) | (simp only [hji2] at H ⊢; exact H)
 (try (have hji2l : 0 ≤ ji2 := by (rw [← hji2]; unfold mx; (repeat' split) <;> omega)))
 (try (have hji2m : 0 ≤ ji2 := by omega))
 have hji2_ : (if 0 < (wrap64 ((a0.size : Int) - 3)) then (wrap64 ((a0.size : Int) - 3)) else 0) = ji2 := hji2
 by_cases c3 : 0 ≤ (ji2)
 ·rw [if_pos c3] at H
  have c3b0 := eq_true c3
  have c3b1 : decide (0 ≤ (ji2)) = true := decide_eq_true c3
  clear c3
  by_cases c4 : (ji2) ≤ (a0.size : Int)
  ·rw [if_pos c4] at H
   have c4b0 := eq_true c4
   have c4b1 : decide ((ji2) ≤ (a0.size : Int)) = true := decide_eq_true c4
   clear c4
   obtain rfl := Option.some.inj H
   go_enter Tryd.func35, Tryd.ntmps35
   go_wp2
   go_ret
   exact ⟨by first | rfl | (simp [errW_none, errW_some] <;> rfl) | (simp only [← hji2]; first | rfl | (simp [errW_none, errW_some] <;> rfl)) | (simp [*, errW_none, errW_some] <;> rfl), bl HB.out⟩
  ·rw [if_neg c4] at H
   exact absurd H (by simp)
 ·rw [if_neg c3] at H
  exact absurd H (by simp)
def galleyref05_Of.f (k : Nat) (l0 : List Int) : Option (Int × Int × Int × Int × ByteArray × ByteArray) := if (l0.length : Int) > 268435456 then (some (0, 0, 0, 0, (⟨#[]⟩ : ByteArray), (⟨#[]⟩ : ByteArray))) else ((galleyref05_Sizes.f k l0).bind fun bt214 => ((galleyref05_head.f (strOfNums l0)).bind fun t218 => ((galleyref05_tail.f (strOfNums l0)).bind fun t219 => (some (bt214.1, bt214.2.1, bt214.2.2.1, bt214.2.2.2, t218, t219)))))
def galleyref05_Of.T3 : Bool × List (List Nat × List Nat) := (true, [([], []), ([0], [0]), ([], []), ([2], [2]), ([3, 1], [3]), ([], []), ([5], [5]), ([6, 4], [6]), ([1, 4, 7], [1, 4, 7]), ([8, 7, 0, 1, 2, 3, 4, 5, 6, 7, 8], [8])])
def galleyref05_Of.B3 : List Nat := [0, 1, 0, 4, 15, 0, 32, 127, 255, 511]
theorem galleyref05_Of.tab3 : rtab .any (opsOf Tryd.f25 3) = galleyref05_Of.T3 := by kernel_rfl
theorem galleyref05_Of.bits3 : waitsOk galleyref05_Of.T3.2 galleyref05_Of.B3 = true := by kernel_rfl
set_option maxHeartbeats 8000000 in
set_option maxRecDepth 100000 in
theorem galleyref05_Of.calls (k : Nat) (A0 : Option Addr) (c0 : Nat) (l0 : List Int) (r1 : Int) (r2 : Int) (r3 : Int) (r4 : Int) (r5 : ByteArray) (r6 : ByteArray) (w : World) (hr0 : Kd.C (Kd.int .u8) w A0 l0.length l0) (hc0 : l0.length ≤ c0) (h : galleyref05_Of.f k l0 = some (r1, r2, r3, r4, r5, r6)) :
  Calls Tryd.prog 25 #[.slice A0 l0.length c0] w fun e w' => e = .returned (.agg #[.int .i64 r1, .int .i64 r2, .int .i64 r3, .int .i64 r4, .string r5, .string r6]) ∧ Below w.heap.size w w' := by
 have hu36 := Tryd.underlying36
 have HR0 := Aside0.mk hr0; have HC0 := Aside0.mk hc0; clear hr0 hc0
 have HB := Aside0.mk (Below.refl w.heap.size w)
 have H : (if (l0.length : Int) > 268435456 then (some (0, 0, 0, 0, (⟨#[]⟩ : ByteArray), (⟨#[]⟩ : ByteArray))) else ((galleyref05_Sizes.f k l0).bind fun bt214 => ((galleyref05_head.f (strOfNums l0)).bind fun t218 => ((galleyref05_tail.f (strOfNums l0)).bind fun t219 => (some (bt214.1, bt214.2.1, bt214.2.2.1, bt214.2.2.2, t218, t219)))))) = some (r1, r2, r3, r4, r5, r6) := h
 clear h
 by_cases c2 : (l0.length : Int) > 268435456
 ·rw [if_pos c2] at H
  have c2b0 : decide (268435456 < (l0.length : Int)) = true := decide_eq_true c2
  have c2b1 : decide (268435456 < l0.length) = true := decide_eq_true (by omega)
  clear c2
  simp only [Option.some.injEq, Prod.mk.injEq] at H
  obtain ⟨rfl, rfl, rfl, rfl, rfl, rfl⟩ := H
  go_enter Tryd.func25, Tryd.ntmps25
  go_wp2_with (first | ((with_reducible refine gate_dst (N := 2) rfl ?_); refine box_event ?hg (N := 2) ?hd (cs := #[.int .i64 0, .int .i64 0, .int .i64 0, .int .i64 0, .string (⟨#[]⟩ : ByteArray), .string (⟨#[]⟩ : ByteArray)]) (t := 36) ?hr ?_; (case hd => rfl); (case hg => rfl); (case hr => first | (go_simp; done) | (go_simp; rfl)); intro gb213 hg w3 hbox hb; have n0_ := Aside0.mk (below_step (bl HB.out) hb); have n1_ := Aside0.mk (hbox); have n2_ := Aside0.mk ((by rw [hg]; exact (below_size (bl HB.out)) : w.heap.size ≤ gb213)); have n3_ := Aside0.mk ((by rw [hg]; exact (below_size (bl HB.out)) : w.heap.size ≤ gb213)); clear HB; have HB := n0_; have BK213 := n1_; have GW213 := n2_; have GE213 := n3_; clear n0_ n1_ n2_ n3_; clear hb hbox hg; obtain ⟨hcz4_0, hcz4_1, hcz4_2, hcz4_3, hcz4_4, hcz4_5⟩ := cl6 BK213.out; obtain ⟨hfz4_0, hfz4_1, hfz4_2, hfz4_3, hfz4_4, hfz4_5⟩ := fl6 BK213.out))
  refine bodyPost_ret (results_cell_row rfl _ _ gb213 36 #[.int .i64 0, .int .i64 0, .int .i64 0, .int .i64 0, .string (⟨#[]⟩ : ByteArray), .string (⟨#[]⟩ : ByteArray)] (0, 0) _ rfl (by refine pl ?_; refine blk_put (cs := #[.int .i64 0, .int .i64 0, .int .i64 0, .int .i64 0, .string (⟨#[]⟩ : ByteArray), .string (⟨#[]⟩ : ByteArray)]) ?_ 5 _ rfl; refine pl ?_; refine blk_put (cs := #[.int .i64 0, .int .i64 0, .int .i64 0, .int .i64 0, .string (⟨#[]⟩ : ByteArray), .string (⟨#[]⟩ : ByteArray)]) ?_ 4 _ rfl; refine pl ?_; refine blk_put (cs := #[.int .i64 0, .int .i64 0, .int .i64 0, .int .i64 0, .string (⟨#[]⟩ : ByteArray), .string (⟨#[]⟩ : ByteArray)]) ?_ 3 _ rfl; refine pl ?_; refine blk_put (cs := #[.int .i64 0, .int .i64 0, .int .i64 0, .int .i64 0, .string (⟨#[]⟩ : ByteArray), .string (⟨#[]⟩ : ByteArray)]) ?_ 2 _ rfl; refine pl ?_; refine blk_put (cs := #[.int .i64 0, .int .i64 0, .int .i64 0, .int .i64 0, .string (⟨#[]⟩ : ByteArray), .string (⟨#[]⟩ : ByteArray)]) ?_ 1 _ rfl; refine pl ?_; refine blk_put (cs := #[.int .i64 0, .int .i64 0, .int .i64 0, .int .i64 0, .string (⟨#[]⟩ : ByteArray), .string (⟨#[]⟩ : ByteArray)]) ?_ 0 _ rfl; refine pl ?_; exact BK213.out) Tryd.underlying36 rfl (by kernel_rfl)) rfl ?_
  exact ⟨by first | rfl | (simp [errW_none, errW_some] <;> rfl) | (simp [*, errW_none, errW_some] <;> rfl), by repeat (first | (with_reducible first | exact HB.out | apply below_alloc | apply pw_below_drewN | apply below_drew1 | refine below_set ?_ GE213.out) | exact HB.out)⟩
 ·rw [if_neg c2] at H
  have c2b0 : decide (268435456 < (l0.length : Int)) = false := decide_eq_false c2
  have c2b1 : decide (268435456 < l0.length) = false := decide_eq_false (by omega)
  clear c2
  replace H := Option.bind_eq_some_iff.mp H
  obtain ⟨⟨t214, t215, t216, t217⟩, A50, H⟩ := H
  have A5 := Aside0.mk A50; clear A50
  replace H := Option.bind_eq_some_iff.mp H
  obtain ⟨t218, A60, H⟩ := H
  have A6 := Aside0.mk A60; clear A60
  replace H := Option.bind_eq_some_iff.mp H
  obtain ⟨t219, A70, H⟩ := H
  have A7 := Aside0.mk A70; clear A70
  simp only [Option.some.injEq, Prod.mk.injEq] at H
  obtain ⟨rfl, rfl, rfl, rfl, rfl, rfl⟩ := H
  go_enter Tryd.func25, Tryd.ntmps25
  try go_wp2_with (first | ((with_reducible refine gate_dst (N := 2) rfl ?_); refine box_event ?hg (N := 2) ?hd (cs := #[.int .i64 0, .int .i64 0, .int .i64 0, .int .i64 0, .string (⟨#[]⟩ : ByteArray), .string (⟨#[]⟩ : ByteArray)]) (t := 36) ?hr ?_; (case hd => rfl); (case hg => rfl); (case hr => first | (go_simp; done) | (go_simp; rfl)); intro gb213 hg w8 hbox hb; have n0_ := Aside0.mk (below_step (bl HB.out) hb); have n1_ := Aside0.mk (hbox); have n2_ := Aside0.mk ((by rw [hg]; exact (below_size (bl HB.out)) : w.heap.size ≤ gb213)); have n3_ := Aside0.mk ((by rw [hg]; exact (below_size (bl HB.out)) : w.heap.size ≤ gb213)); clear HB; have HB := n0_; have BK213 := n1_; have GW213 := n2_; have GE213 := n3_; clear n0_ n1_ n2_ n3_; clear hb hbox hg))
  have n0_ := Aside0.mk (blk_drew BK213.out)
  have n1_ := Aside0.mk (below_drew1 HB.out)
  clear BK213; clear HB; have BK213 := n0_; have HB := n1_; clear n0_ n1_
  have cvA : ∀ W_ : World, Below w.heap.size w W_ → Sem.run Tryd.prog (convert 26 9 (.slice A0 l0.length c0)) W_ = .ok (.string (strOfNums l0)) W_ := fun W_ hb_ => Kd.C_string (P := Tryd.prog) (A := A0) (c := c0) Tryd.underlying26 Tryd.underlying5 Tryd.underlying9 (Kd.C_below HR0.out hb_)
  have CVA := Aside0.mk cvA; clear cvA
  refine start_ (n := 10) (S := fun w' => Sem.run Tryd.prog (convert 26 9 (.slice A0 l0.length c0)) w' = .ok (.string (strOfNums l0)) w') (ds := []) #[false, false, false, false, false, false, false, false, false, false] (by kernel_rfl) rfl rfl (CVA.out _ (by repeat (first | (with_reducible first | exact HB.out | apply below_alloc | apply pw_below_drewN | apply below_drew1 | apply below_drew | refine below_set ?_ GE213.out) | exact HB.out))) (fun hHeld => ?_); refine with_tabW galleyref05_Of.tab3 galleyref05_Of.bits3 (fun HT_ HW_ => ?_)
  generalize w8.drew = w9 at BK213 HB hHeld ⊢
  refine pure_ (i := 0) (N := some 7) (v := ?_) (a' := ?_) #[true, false, false, false, false, false, false, false, false, false] rfl rfl (any_of HT_.out (by kernel_rfl)) (fun _ _ _ h => h) (Or.inl ⟨by rfl, ?_⟩) ?_ ?_
  rotate_left
  ·intro w'
   go_simp
   with_reducible rfl
  rotate_left
  ·simp only [Act.put, List.setIfInBounds_toArray, List.set_cons_zero, List.set_cons_succ, i64_w, i32_w]
   rfl
  refine pure_ (i := 2) (N := some 9) (v := ?_) (a' := ?_) #[true, false, true, false, false, false, false, false, false, false] rfl rfl (any_of HT_.out (by kernel_rfl)) (fun _ _ _ h => h) (Or.inl ⟨by rfl, ?_⟩) ?_ ?_
  rotate_left
  ·intro w'
   go_simp
   with_reducible rfl
  rotate_left
  ·simp only [Act.put, List.setIfInBounds_toArray, List.set_cons_zero, List.set_cons_succ, i64_w, i32_w]
   rfl
  refine take_ (i := 3) (N := some 10) (v := ?_) (a' := ?_) #[true, false, true, true, false, false, false, false, false, false] rfl rfl (by kernel_rfl) (fun _ _ _ h => h) (Or.inl ⟨by rfl, ?_⟩) hHeld ?_ ?_
  rotate_left
  ·rintro w' cv1_
   go_simp
   with_reducible rfl
  rotate_left
  ·simp only [Act.put, List.setIfInBounds_toArray, List.set_cons_zero, List.set_cons_succ, i64_w, i32_w]
   rfl
  refine pure_ (i := 5) (N := some 12) (v := ?_) (a' := ?_) #[true, false, true, true, false, true, false, false, false, false] rfl rfl (any_of HT_.out (by kernel_rfl)) (fun _ _ _ h => h) (Or.inl ⟨by rfl, ?_⟩) ?_ ?_
  rotate_left
  ·intro w'
   go_simp
   with_reducible rfl
  rotate_left
  ·simp only [Act.put, List.setIfInBounds_toArray, List.set_cons_zero, List.set_cons_succ, i64_w, i32_w]
   rfl
  refine take_ (i := 6) (N := some 13) (v := ?_) (a' := ?_) #[true, false, true, true, false, true, true, false, false, false] rfl rfl (by kernel_rfl) (fun _ _ _ h => h) (Or.inl ⟨by rfl, ?_⟩) hHeld ?_ ?_
  rotate_left
  ·rintro w' cv1_
   go_simp
   with_reducible rfl
  rotate_left
  ·simp only [Act.put, List.setIfInBounds_toArray, List.set_cons_zero, List.set_cons_succ, i64_w, i32_w]
   rfl
  refine one_ (i := 1) (N := some 8) #[true, true, true, true, false, true, true, false, false, false] rfl rfl (one_of HT_.out (by kernel_rfl)) (by decide) (fun K hK => ?_)
  refine goes_ Tryd.func16 (by kernel_rfl) rfl #[.slice A0 l0.length c0] (by rfl) rfl rfl (by (try simp only [List.map_toArray, List.map_cons, List.map_nil]); first | done | rfl | (simp only [List.length_drop, List.length_take]; rfl)) ?_
  with_reducible refine (galleyref05_Sizes.calls k _ _ l0 t214 t215 t216 t217 _ ?side1 ?side2 A5.out).mono ?_
  (case side1 => repeat (first | exact (Kd.C_below HR0.out HB.out) | (with_reducible refine Kd.C_alloc ?_ _) | (with_reducible refine Kd.C_drewN ?_ _) | (with_reducible refine Kd.C_drew ?_)))
  (case side2 => exact HC0.out)
  rintro e w10 ⟨rfl, hb⟩
  refine ⟨_, rfl, ?_⟩
  have n0_ := Aside0.mk (blk_below (pl BK213.out) hb)
  have n1_ := Aside0.mk (below_step (by repeat (first | (with_reducible first | exact HB.out | apply below_alloc | apply pw_below_drewN | apply below_drew1 | refine below_set ?_ GE213.out) | exact HB.out)) hb)
  clear BK213; clear HB; have BK213 := n0_; have HB := n1_; clear n0_ n1_
  (try clear hb)
  (try clear hb2)
  (try clear hk)
  (try clear hi)
  refine hK.out _ _ (CVA.out _ (by repeat (first | (with_reducible first | exact HB.out | apply below_alloc | apply pw_below_drewN | apply below_drew1 | apply below_drew | refine below_set ?_ GE213.out) | exact HB.out))) (fun hHeld => ?_)
  clear hK K
  refine norm_ (a' := ?_) ?_ ?_
  rotate_left
  ·show Act.put _ (some 8) _ = _
   simp only [Act.put, List.setIfInBounds_toArray, List.set_cons_zero, List.set_cons_succ, i64_w, i32_w]
   rfl
  refine one_ (i := 4) (N := some 11) #[true, true, true, true, true, true, true, false, false, false] rfl rfl (one_of HT_.out (by kernel_rfl)) (by decide) (fun K hK => ?_)
  refine goes_ Tryd.func34 (by kernel_rfl) rfl #[.string (strOfNums l0)] (by rfl) rfl rfl (by (try simp only [List.map_toArray, List.map_cons, List.map_nil]); first | done | rfl | (simp only [List.length_drop, List.length_take]; rfl)) ?_
  with_reducible refine (galleyref05_head.calls (strOfNums l0) t218 _ A6.out).mono ?_
  rintro e w12 ⟨rfl, hb⟩
  refine ⟨_, rfl, ?_⟩
  have n0_ := Aside0.mk (blk_below (pl BK213.out) hb)
  have n1_ := Aside0.mk (below_step (by repeat (first | (with_reducible first | exact HB.out | apply below_alloc | apply pw_below_drewN | apply below_drew1 | refine below_set ?_ GE213.out) | exact HB.out)) hb)
  clear BK213; clear HB; have BK213 := n0_; have HB := n1_; clear n0_ n1_
  (try clear hb)
  (try clear hb2)
  (try clear hk)
  (try clear hi)
  refine hK.out _ _ (CVA.out _ (by repeat (first | (with_reducible first | exact HB.out | apply below_alloc | apply pw_below_drewN | apply below_drew1 | apply below_drew | refine below_set ?_ GE213.out) | exact HB.out))) (fun hHeld => ?_)
  clear hK K
  refine norm_ (a' := ?_) ?_ ?_
  rotate_left
  ·show Act.put _ (some 11) _ = _
   simp only [Act.put, List.setIfInBounds_toArray, List.set_cons_zero, List.set_cons_succ, i64_w, i32_w]
   rfl
  refine one_ (i := 7) (N := some 14) #[true, true, true, true, true, true, true, true, false, false] rfl rfl (one_of HT_.out (by kernel_rfl)) (by decide) (fun K hK => ?_)
  refine goes_ Tryd.func35 (by kernel_rfl) rfl #[.string (strOfNums l0)] (by rfl) rfl rfl (by (try simp only [List.map_toArray, List.map_cons, List.map_nil]); first | done | rfl | (simp only [List.length_drop, List.length_take]; rfl)) ?_
  with_reducible refine (galleyref05_tail.calls (strOfNums l0) t219 _ A7.out).mono ?_
  rintro e w15 ⟨rfl, hb⟩
  refine ⟨_, rfl, ?_⟩
  have n0_ := Aside0.mk (blk_below (pl BK213.out) hb)
  have n1_ := Aside0.mk (below_step (by repeat (first | (with_reducible first | exact HB.out | apply below_alloc | apply pw_below_drewN | apply below_drew1 | refine below_set ?_ GE213.out) | exact HB.out)) hb)
  clear BK213; clear HB; have BK213 := n0_; have HB := n1_; clear n0_ n1_
  (try clear hb)
  (try clear hb2)
  (try clear hk)
  (try clear hi)
  refine hK.out _ _ (CVA.out _ (by repeat (first | (with_reducible first | exact HB.out | apply below_alloc | apply pw_below_drewN | apply below_drew1 | apply below_drew | refine below_set ?_ GE213.out) | exact HB.out))) (fun hHeld => ?_)
  clear hK K
  refine norm_ (a' := ?_) ?_ ?_
  rotate_left
  ·show Act.put _ (some 14) _ = _
   simp only [Act.put, List.setIfInBounds_toArray, List.set_cons_zero, List.set_cons_succ, i64_w, i32_w]
   rfl
  refine pure_ (i := 8) (N := some 15) (v := ?_) (a' := ?_) #[true, true, true, true, true, true, true, true, true, false] rfl rfl (any_of HT_.out (by kernel_rfl)) (fun _ _ _ h => h) (Or.inl ⟨by rfl, ?_⟩) ?_ ?_
  rotate_left
  ·intro w'
   go_simp
   with_reducible rfl
  rotate_left
  ·simp only [Act.put, List.setIfInBounds_toArray, List.set_cons_zero, List.set_cons_succ, i64_w, i32_w]
   rfl
  refine one_ (i := 9) (N := none) #[true, true, true, true, true, true, true, true, true, true] rfl rfl (one_of HT_.out (by kernel_rfl)) (by decide) (fun K hK => ?_)
  have hs16 : w15.cell? ⟨gb213, 0, none⟩ = some (.int .i64 0) := (blk_cell BK213.out 0).trans rfl
  have hfs16 := blk_frozen BK213.out 0
  have hs17 : w15.cell? ⟨gb213, 1, none⟩ = some (.int .i64 0) := (blk_cell BK213.out 1).trans rfl
  have hfs17 := blk_frozen BK213.out 1
  have hs18 : w15.cell? ⟨gb213, 2, none⟩ = some (.int .i64 0) := (blk_cell BK213.out 2).trans rfl
  have hfs18 := blk_frozen BK213.out 2
  have hs19 : w15.cell? ⟨gb213, 3, none⟩ = some (.int .i64 0) := (blk_cell BK213.out 3).trans rfl
  have hfs19 := blk_frozen BK213.out 3
  have hs20 : w15.cell? ⟨gb213, 4, none⟩ = some (.string (⟨#[]⟩ : ByteArray)) := (blk_cell BK213.out 4).trans rfl
  have hfs20 := blk_frozen BK213.out 4
  have hs21 : w15.cell? ⟨gb213, 5, none⟩ = some (.string (⟨#[]⟩ : ByteArray)) := (blk_cell BK213.out 5).trans rfl
  have hfs21 := blk_frozen BK213.out 5
  refine skip_ (w1 := ?_) (by rfl) rfl ?_ ?_
  rotate_left
  ·go_simp
   rfl
  refine hK.out _ _ (CVA.out _ (by repeat (first | (with_reducible first | exact HB.out | apply below_alloc | apply pw_below_drewN | apply below_drew1 | apply below_drew | refine below_set ?_ GE213.out) | exact HB.out))) (fun hHeld => ?_)
  clear hK K
  refine done_ (done_of HT_.out (by kernel_rfl)) ?_
  try go_wp2
  refine bodyPost_ret (results_cell_row rfl _ _ gb213 36 #[.int .i64 t214, .int .i64 t215, .int .i64 t216, .int .i64 t217, .string t218, .string t219] (0, 0) _ rfl (by refine pl ?_; refine blk_put (cs := #[.int .i64 t214, .int .i64 t215, .int .i64 t216, .int .i64 t217, .string t218, .string (⟨#[]⟩ : ByteArray)]) ?_ 5 _ rfl; refine pl ?_; refine blk_put (cs := #[.int .i64 t214, .int .i64 t215, .int .i64 t216, .int .i64 t217, .string (⟨#[]⟩ : ByteArray), .string (⟨#[]⟩ : ByteArray)]) ?_ 4 _ rfl; refine pl ?_; refine blk_put (cs := #[.int .i64 t214, .int .i64 t215, .int .i64 t216, .int .i64 0, .string (⟨#[]⟩ : ByteArray), .string (⟨#[]⟩ : ByteArray)]) ?_ 3 _ rfl; refine pl ?_; refine blk_put (cs := #[.int .i64 t214, .int .i64 t215, .int .i64 0, .int .i64 0, .string (⟨#[]⟩ : ByteArray), .string (⟨#[]⟩ : ByteArray)]) ?_ 2 _ rfl; refine pl ?_; refine blk_put (cs := #[.int .i64 t214, .int .i64 0, .int .i64 0, .int .i64 0, .string (⟨#[]⟩ : ByteArray), .string (⟨#[]⟩ : ByteArray)]) ?_ 1 _ rfl; refine pl ?_; refine blk_put (cs := #[.int .i64 0, .int .i64 0, .int .i64 0, .int .i64 0, .string (⟨#[]⟩ : ByteArray), .string (⟨#[]⟩ : ByteArray)]) ?_ 0 _ rfl; refine pl ?_; exact BK213.out) Tryd.underlying36 rfl (by kernel_rfl)) rfl ?_
  exact ⟨by first | rfl | (simp [errW_none, errW_some] <;> rfl) | (simp [*, errW_none, errW_some] <;> rfl), by repeat (first | (with_reducible first | exact HB.out | apply below_alloc | apply pw_below_drewN | apply below_drew1 | refine below_set ?_ GE213.out) | exact HB.out)⟩

-- NOT PRINTED: function 22 (galleylaw08_is)

-- NOT PRINTED: function 6 (galleylaw08_LeafMemory)

-- NOT PRINTED: function 23 (leaf_Join)

-- NOT PRINTED: function 7 (galleylaw08_LeafJoins)
def weld_short.f (a0_0 : Int) (a0_1 : Int) (a0_2 : Int) (a0_3 : Int) (a0_4 : ByteArray) (a0_5 : ByteArray) : Option (ByteArray × Bool) := if 0 ≤ (wrap64 ((a0_4.size : Int) - (wrap64 ((wrap64 ((a0_4.size : Int) + (a0_5.size : Int))) - a0_0)))) then (if (wrap64 ((a0_4.size : Int) - (wrap64 ((wrap64 ((a0_4.size : Int) + (a0_5.size : Int))) - a0_0)))) ≤ (a0_4.size : Int) then (if 0 ≤ (wrap64 ((wrap64 ((a0_4.size : Int) + (a0_5.size : Int))) - a0_0)) then (if (wrap64 ((wrap64 ((a0_4.size : Int) + (a0_5.size : Int))) - a0_0)) ≤ (a0_5.size : Int) then (if (a0_4.extract ((wrap64 ((a0_4.size : Int) - (wrap64 ((wrap64 ((a0_4.size : Int) + (a0_5.size : Int))) - a0_0)))) : Int).toNat a0_4.size).toList = (a0_5.extract 0 ((wrap64 ((wrap64 ((a0_4.size : Int) + (a0_5.size : Int))) - a0_0)) : Int).toNat).toList then (if a0_4.size + (a0_5.extract ((wrap64 ((wrap64 ((a0_4.size : Int) + (a0_5.size : Int))) - a0_0)) : Int).toNat a0_5.size).size ≤ 9223372036854775807 then (some (a0_4 ++ (a0_5.extract ((wrap64 ((wrap64 ((a0_4.size : Int) + (a0_5.size : Int))) - a0_0)) : Int).toNat a0_5.size), true)) else (none)) else (some ((⟨#[]⟩ : ByteArray), false))) else (none)) else (none)) else (none)) else (none)
set_option maxHeartbeats 8000000 in
set_option maxRecDepth 100000 in
theorem weld_short.calls (a0_0 : Int) (a0_1 : Int) (a0_2 : Int) (a0_3 : Int) (a0_4 : ByteArray) (a0_5 : ByteArray) (r1 : ByteArray) (r2 : Bool) (w : World) (h : weld_short.f a0_0 a0_1 a0_2 a0_3 a0_4 a0_5 = some (r1, r2)) :
  Calls Tryd.prog 53 #[.agg #[.int .i64 a0_0, .int .i64 a0_1, .int .i64 a0_2, .int .i64 a0_3, .string a0_4, .string a0_5]] w fun e w' => e = .returned (.tuple #[.string r1, .bool r2]) ∧ Below w.heap.size w w' := by
 have hu36 := Tryd.underlying36
 have HB := Aside0.mk (Below.refl w.heap.size w)
 have H : (if 0 ≤ (wrap64 ((a0_4.size : Int) - (wrap64 ((wrap64 ((a0_4.size : Int) + (a0_5.size : Int))) - a0_0)))) then (if (wrap64 ((a0_4.size : Int) - (wrap64 ((wrap64 ((a0_4.size : Int) + (a0_5.size : Int))) - a0_0)))) ≤ (a0_4.size : Int) then (if 0 ≤ (wrap64 ((wrap64 ((a0_4.size : Int) + (a0_5.size : Int))) - a0_0)) then (if (wrap64 ((wrap64 ((a0_4.size : Int) + (a0_5.size : Int))) - a0_0)) ≤ (a0_5.size : Int) then (if (a0_4.extract ((wrap64 ((a0_4.size : Int) - (wrap64 ((wrap64 ((a0_4.size : Int) + (a0_5.size : Int))) - a0_0)))) : Int).toNat a0_4.size).toList = (a0_5.extract 0 ((wrap64 ((wrap64 ((a0_4.size : Int) + (a0_5.size : Int))) - a0_0)) : Int).toNat).toList then (if a0_4.size + (a0_5.extract ((wrap64 ((wrap64 ((a0_4.size : Int) + (a0_5.size : Int))) - a0_0)) : Int).toNat a0_5.size).size ≤ 9223372036854775807 then (some (a0_4 ++ (a0_5.extract ((wrap64 ((wrap64 ((a0_4.size : Int) + (a0_5.size : Int))) - a0_0)) : Int).toNat a0_5.size), true)) else (none)) else (some ((⟨#[]⟩ : ByteArray), false))) else (none)) else (none)) else (none)) else (none)) = some (r1, r2) := h
 clear h
 obtain ⟨ji2, hji2⟩ : ∃ j_ : Int, (wrap64 ((a0_4.size : Int) - (wrap64 ((wrap64 ((a0_4.size : Int) + (a0_5.size : Int))) - a0_0)))) = j_ := ⟨_, rfl⟩
 replace H : (if 0 ≤ (ji2) then (if (ji2) ≤ (a0_4.size : Int) then (if 0 ≤ (wrap64 ((wrap64 ((a0_4.size : Int) + (a0_5.size : Int))) - a0_0)) then (if (wrap64 ((wrap64 ((a0_4.size : Int) + (a0_5.size : Int))) - a0_0)) ≤ (a0_5.size : Int) then (if (a0_4.extract ((ji2) : Int).toNat a0_4.size).toList = (a0_5.extract 0 ((wrap64 ((wrap64 ((a0_4.size : Int) + (a0_5.size : Int))) - a0_0)) : Int).toNat).toList then (if a0_4.size + (a0_5.extract ((wrap64 ((wrap64 ((a0_4.size : Int) + (a0_5.size : Int))) - a0_0)) : Int).toNat a0_5.size).size ≤ 9223372036854775807 then (some (a0_4 ++ (a0_5.extract ((wrap64 ((wrap64 ((a0_4.size : Int) + (a0_5.size : Int))) - a0_0)) : Int).toNat a0_5.size), true)) else (none)) else (some ((⟨#[]⟩ : ByteArray), false))) else (none)) else (none)) else (none)) else (none)) = some (r1, r2) := by first | (rw [hji2] at H; exact H) | (simp only [hji2] at H ⊢; exact H)
 have hji2w : (IntKind.i64.wrap ((a0_4.size : Int) - (wrap64 ((wrap64 ((a0_4.size : Int) + (a0_5.size : Int))) - a0_0)))) = ji2 := (i64_w _).trans hji2
 by_cases c3 : 0 ≤ (ji2)
 ·rw [if_pos c3] at H
  have c3b0 := eq_true c3
  have c3b1 : decide (0 ≤ (ji2)) = true := decide_eq_true c3
  clear c3
  by_cases c4 : (ji2) ≤ (a0_4.size : Int)
  ·rw [if_pos c4] at H
   have c4b0 := eq_true c4
   have c4b1 : decide ((ji2) ≤ (a0_4.size : Int)) = true := decide_eq_true c4
   clear c4
   obtain ⟨ji5, hji5⟩ : ∃ j_ : Int, (wrap64 ((wrap64 ((a0_4.size : Int) + (a0_5.size : Int))) - a0_0)) = j_ := ⟨_, rfl⟩
   replace H : (if 0 ≤ (ji5) then (if (ji5) ≤ (a0_5.size : Int) then (if (a0_4.extract ((ji2) : Int).toNat a0_4.size).toList = (a0_5.extract 0 ((ji5) : Int).toNat).toList then (if a0_4.size + (a0_5.extract ((ji5) : Int).toNat a0_5.size).size ≤ 9223372036854775807 then (some (a0_4 ++ (a0_5.extract ((ji5) : Int).toNat a0_5.size), true)) else (none)) else (some ((⟨#[]⟩ : ByteArray), false))) else (none)) else (none)) = some (r1, r2) := by first | (rw [hji5] at H; exact H) | (simp only [hji5] at H ⊢; exact H)
   have hji5w : (IntKind.i64.wrap ((wrap64 ((a0_4.size : Int) + (a0_5.size : Int))) - a0_0)) = ji5 := (i64_w _).trans hji5
   have hji2x : IntKind.i64.wrap ((a0_4.size : Int) - ji5) = ji2 := by rw [← hji5]; exact hji2w
   by_cases c6 : 0 ≤ (ji5)
   ·rw [if_pos c6] at H
    have c6b0 := eq_true c6
    have c6b1 : decide (0 ≤ (ji5)) = true := decide_eq_true c6
    clear c6
    by_cases c7 : (ji5) ≤ (a0_5.size : Int)
    ·rw [if_pos c7] at H
     have c7b0 := eq_true c7
     have c7b1 : decide ((ji5) ≤ (a0_5.size : Int)) = true := decide_eq_true c7
     clear c7
     by_cases c8 : (a0_4.extract ((ji2) : Int).toNat a0_4.size).toList = (a0_5.extract 0 ((ji5) : Int).toNat).toList
     ·rw [if_pos c8] at H
      have c8b0 : ((a0_4.extract ((ji2) : Int).toNat a0_4.size).toList == (a0_5.extract 0 ((ji5) : Int).toNat).toList) = true := beq_iff_eq.mpr c8
      have c8b1 : ((a0_4.extract ((ji2) : Int).toNat a0_4.size).toList != (a0_5.extract 0 ((ji5) : Int).toNat).toList) = false := bne_eq_false_iff_eq.mpr c8
      clear c8
      have c9b0 := eq_true (of_decide_eq_true (by first | (with_reducible assumption) | assumption) : 0 ≤ (ji5))
      have c10b0 := eq_true (of_decide_eq_true (by first | (with_reducible assumption) | assumption) : (ji5) ≤ (a0_5.size : Int))
      by_cases c11 : a0_4.size + (a0_5.extract ((ji5) : Int).toNat a0_5.size).size ≤ 9223372036854775807
      ·rw [if_pos c11] at H
       have c11b0 := eq_true c11
       have c11b1 : decide (a0_4.size + (a0_5.extract ((ji5) : Int).toNat a0_5.size).size ≤ 9223372036854775807) = true := decide_eq_true c11
       try have c11b2 : (9223372036854775807 < a0_4.size + (a0_5.extract ((ji5) : Int).toNat a0_5.size).size) = False := eq_false (Nat.not_lt.2 c11)
       have c11b3 : (9223372036854775807 < a0_4.size + (a0_5.size - ji5.toNat)) = False := eq_false (by have z_ := c11; simp only [ByteArray.size_extract] at z_; omega)
       simp only [Option.some.injEq, Prod.mk.injEq] at H
       obtain ⟨rfl, rfl⟩ := H
       go_enter Tryd.func53, Tryd.ntmps53
       go_wp2_with (first | ((with_reducible refine gate_dst (N := 1) rfl ?_); refine box_event ?hg (N := 1) ?hd (cs := #[.int .i64 a0_0, .int .i64 a0_1, .int .i64 a0_2, .int .i64 a0_3, .string a0_4, .string a0_5]) (t := 36) ?hr ?_; (case hd => rfl); (case hg => rfl); (case hr => first | (go_simp; done) | (go_simp; rfl)); intro gb220 hg w12 hbox hb; have n0_ := Aside0.mk (below_step (bl HB.out) hb); have n1_ := Aside0.mk (hbox); have n2_ := Aside0.mk ((by rw [hg]; exact (below_size (bl HB.out)) : w.heap.size ≤ gb220)); have n3_ := Aside0.mk ((by rw [hg]; exact (below_size (bl HB.out)) : w.heap.size ≤ gb220)); clear HB; have HB := n0_; have BK220 := n1_; have GW220 := n2_; have GE220 := n3_; clear n0_ n1_ n2_ n3_; clear hb hbox hg; obtain ⟨hcz13_0, hcz13_1, hcz13_2, hcz13_3, hcz13_4, hcz13_5⟩ := cl6 BK220.out; obtain ⟨hfz13_0, hfz13_1, hfz13_2, hfz13_3, hfz13_4, hfz13_5⟩ := fl6 BK220.out))
       repeat (go_quiet (first | ((with_reducible refine gate_dst (N := 1) rfl ?_); refine box_event ?hg (N := 1) ?hd (cs := #[.int .i64 a0_0, .int .i64 a0_1, .int .i64 a0_2, .int .i64 a0_3, .string a0_4, .string a0_5]) (t := 36) ?hr ?_; (case hd => rfl); (case hg => rfl); (case hr => first | (go_simp; done) | (go_simp; rfl)); intro gb220 hg w12 hbox hb; have n0_ := Aside0.mk (below_step (bl HB.out) hb); have n1_ := Aside0.mk (hbox); have n2_ := Aside0.mk ((by rw [hg]; exact (below_size (bl HB.out)) : w.heap.size ≤ gb220)); have n3_ := Aside0.mk ((by rw [hg]; exact (below_size (bl HB.out)) : w.heap.size ≤ gb220)); clear HB; have HB := n0_; have BK220 := n1_; have GW220 := n2_; have GE220 := n3_; clear n0_ n1_ n2_ n3_; clear hb hbox hg; obtain ⟨hcz13_0, hcz13_1, hcz13_2, hcz13_3, hcz13_4, hcz13_5⟩ := cl6 BK220.out; obtain ⟨hfz13_0, hfz13_1, hfz13_2, hfz13_3, hfz13_4, hfz13_5⟩ := fl6 BK220.out)); try go_wp2_with (first | ((with_reducible refine gate_dst (N := 1) rfl ?_); refine box_event ?hg (N := 1) ?hd (cs := #[.int .i64 a0_0, .int .i64 a0_1, .int .i64 a0_2, .int .i64 a0_3, .string a0_4, .string a0_5]) (t := 36) ?hr ?_; (case hd => rfl); (case hg => rfl); (case hr => first | (go_simp; done) | (go_simp; rfl)); intro gb220 hg w12 hbox hb; have n0_ := Aside0.mk (below_step (bl HB.out) hb); have n1_ := Aside0.mk (hbox); have n2_ := Aside0.mk ((by rw [hg]; exact (below_size (bl HB.out)) : w.heap.size ≤ gb220)); have n3_ := Aside0.mk ((by rw [hg]; exact (below_size (bl HB.out)) : w.heap.size ≤ gb220)); clear HB; have HB := n0_; have BK220 := n1_; have GW220 := n2_; have GE220 := n3_; clear n0_ n1_ n2_ n3_; clear hb hbox hg; obtain ⟨hcz13_0, hcz13_1, hcz13_2, hcz13_3, hcz13_4, hcz13_5⟩ := cl6 BK220.out; obtain ⟨hfz13_0, hfz13_1, hfz13_2, hfz13_3, hfz13_4, hfz13_5⟩ := fl6 BK220.out)))
       go_ret2
       exact ⟨by first | rfl | (simp [errW_none, errW_some] <;> rfl) | (simp only [← hji2, ← hji5]; first | rfl | (simp [errW_none, errW_some] <;> rfl)) | (simp [*, errW_none, errW_some] <;> rfl), by repeat (first | (with_reducible first | exact HB.out | apply below_alloc | apply pw_below_drewN | apply below_drew1 | refine below_set ?_ GE220.out) | exact HB.out)⟩
      ·rw [if_neg c11] at H
       exact absurd H (by simp)
     ·rw [if_neg c8] at H
      have c8b0 : ((a0_4.extract ((ji2) : Int).toNat a0_4.size).toList == (a0_5.extract 0 ((ji5) : Int).toNat).toList) = false := beq_eq_false_iff_ne.mpr c8
      have c8b1 : ((a0_4.extract ((ji2) : Int).toNat a0_4.size).toList != (a0_5.extract 0 ((ji5) : Int).toNat).toList) = true := bne_iff_ne.mpr c8
      simp only [Option.some.injEq, Prod.mk.injEq] at H
      obtain ⟨rfl, rfl⟩ := H
      go_enter Tryd.func53, Tryd.ntmps53
      go_wp2_with (first | ((with_reducible refine gate_dst (N := 1) rfl ?_); refine box_event ?hg (N := 1) ?hd (cs := #[.int .i64 a0_0, .int .i64 a0_1, .int .i64 a0_2, .int .i64 a0_3, .string a0_4, .string a0_5]) (t := 36) ?hr ?_; (case hd => rfl); (case hg => rfl); (case hr => first | (go_simp; done) | (go_simp; rfl)); intro gb220 hg w14 hbox hb; have n0_ := Aside0.mk (below_step (bl HB.out) hb); have n1_ := Aside0.mk (hbox); have n2_ := Aside0.mk ((by rw [hg]; exact (below_size (bl HB.out)) : w.heap.size ≤ gb220)); have n3_ := Aside0.mk ((by rw [hg]; exact (below_size (bl HB.out)) : w.heap.size ≤ gb220)); clear HB; have HB := n0_; have BK220 := n1_; have GW220 := n2_; have GE220 := n3_; clear n0_ n1_ n2_ n3_; clear hb hbox hg; obtain ⟨hcz15_0, hcz15_1, hcz15_2, hcz15_3, hcz15_4, hcz15_5⟩ := cl6 BK220.out; obtain ⟨hfz15_0, hfz15_1, hfz15_2, hfz15_3, hfz15_4, hfz15_5⟩ := fl6 BK220.out))
      repeat (go_quiet (first | ((with_reducible refine gate_dst (N := 1) rfl ?_); refine box_event ?hg (N := 1) ?hd (cs := #[.int .i64 a0_0, .int .i64 a0_1, .int .i64 a0_2, .int .i64 a0_3, .string a0_4, .string a0_5]) (t := 36) ?hr ?_; (case hd => rfl); (case hg => rfl); (case hr => first | (go_simp; done) | (go_simp; rfl)); intro gb220 hg w14 hbox hb; have n0_ := Aside0.mk (below_step (bl HB.out) hb); have n1_ := Aside0.mk (hbox); have n2_ := Aside0.mk ((by rw [hg]; exact (below_size (bl HB.out)) : w.heap.size ≤ gb220)); have n3_ := Aside0.mk ((by rw [hg]; exact (below_size (bl HB.out)) : w.heap.size ≤ gb220)); clear HB; have HB := n0_; have BK220 := n1_; have GW220 := n2_; have GE220 := n3_; clear n0_ n1_ n2_ n3_; clear hb hbox hg; obtain ⟨hcz15_0, hcz15_1, hcz15_2, hcz15_3, hcz15_4, hcz15_5⟩ := cl6 BK220.out; obtain ⟨hfz15_0, hfz15_1, hfz15_2, hfz15_3, hfz15_4, hfz15_5⟩ := fl6 BK220.out)); try go_wp2_with (first | ((with_reducible refine gate_dst (N := 1) rfl ?_); refine box_event ?hg (N := 1) ?hd (cs := #[.int .i64 a0_0, .int .i64 a0_1, .int .i64 a0_2, .int .i64 a0_3, .string a0_4, .string a0_5]) (t := 36) ?hr ?_; (case hd => rfl); (case hg => rfl); (case hr => first | (go_simp; done) | (go_simp; rfl)); intro gb220 hg w14 hbox hb; have n0_ := Aside0.mk (below_step (bl HB.out) hb); have n1_ := Aside0.mk (hbox); have n2_ := Aside0.mk ((by rw [hg]; exact (below_size (bl HB.out)) : w.heap.size ≤ gb220)); have n3_ := Aside0.mk ((by rw [hg]; exact (below_size (bl HB.out)) : w.heap.size ≤ gb220)); clear HB; have HB := n0_; have BK220 := n1_; have GW220 := n2_; have GE220 := n3_; clear n0_ n1_ n2_ n3_; clear hb hbox hg; obtain ⟨hcz15_0, hcz15_1, hcz15_2, hcz15_3, hcz15_4, hcz15_5⟩ := cl6 BK220.out; obtain ⟨hfz15_0, hfz15_1, hfz15_2, hfz15_3, hfz15_4, hfz15_5⟩ := fl6 BK220.out)))
      go_ret2
      exact ⟨by first | rfl | (simp [errW_none, errW_some] <;> rfl) | (simp only [← hji2, ← hji5]; first | rfl | (simp [errW_none, errW_some] <;> rfl)) | (simp [*, errW_none, errW_some] <;> rfl), by repeat (first | (with_reducible first | exact HB.out | apply below_alloc | apply pw_below_drewN | apply below_drew1 | refine below_set ?_ GE220.out) | exact HB.out)⟩
    ·rw [if_neg c7] at H
     exact absurd H (by simp)
   ·rw [if_neg c6] at H
    exact absurd H (by simp)
  ·rw [if_neg c4] at H
   exact absurd H (by simp)
 ·rw [if_neg c3] at H
  exact absurd H (by simp)
end Go.Proofs.YteoonhidjldnfaaDoor.Pr

namespace Go.Proofs.YteoonhidjldnfaaDoor.PuMs
open Go.RowKit Go.Proofs.YteoonhidjldnfaaDoor.Pr Go.Proofs.YteoonhidjldnfaaDoor.Math Go.Proofs.YteoonhidjldnfaaDoor.PuSz Go.Proofs.YteoonhidjldnfaaDoorW.PrintWords Go.Proofs.YteoonhidjldnfaaDoorW.PrintLast Go.Proofs.YteoonhidjldnfaaDoorW.PrintMore
set_option linter.unusedVariables false
set_option linter.unusedSimpArgs false
theorem bo_byt (s : ByteArray) : Byt (bytesOf s) := by
  intro x hx
  unfold bytesOf at hx
  obtain ⟨b, _, rfl⟩ := List.mem_map.1 hx
  have := UInt8.toNat_lt b
  omega
theorem bo_str (l : List Int) (hb : Byt l) : bytesOf (strOfNums l) = l := by
  unfold bytesOf
  rw [strOfNums_data, List.map_map]
  conv => rhs; rw [← List.map_id l]
  apply List.map_congr_left
  intro x hx
  have := hb x hx
  simp [UInt8.toNat_ofNat']
  omega
theorem ba_ext {s t : ByteArray} (h : s.data.toList = t.data.toList) : s = t := by
  cases s; cases t
  simp only [ByteArray.mk.injEq]
  exact Array.toList_inj.1 h
theorem bo_inj {s t : ByteArray} (h : bytesOf s = bytesOf t) : s = t := by
  apply ba_ext
  unfold bytesOf at h
  exact (List.map_inj_right (fun x y e => UInt8.toNat_inj.1 (by omega))).1 h
theorem str_bo (s : ByteArray) : strOfNums (bytesOf s) = s := bo_inj (bo_str _ (bo_byt s))
theorem bo_append (s t : ByteArray) : bytesOf (s ++ t) = bytesOf s ++ bytesOf t := by unfold bytesOf; rw [ByteArray.data_append, Array.toList_append, List.map_append]
theorem bo_extract (s : ByteArray) (a b : Nat) : bytesOf (s.extract a b) = ((bytesOf s).drop a).take (b - a) := by unfold bytesOf; rw [Lib.extract_data, List.map_take, List.map_drop]
theorem tl_eq (s t : ByteArray) : s.toList = t.toList ↔ bytesOf s = bytesOf t := by
  rw [ByteArray.toList_eq, ByteArray.toList_eq]
  constructor
  · intro h; rw [ba_ext h]
  · intro h; rw [bo_inj h]
theorem tl_beq (s t : ByteArray) : (s.toList == t.toList) = decide (bytesOf s = bytesOf t) := by
  rw [Bool.eq_iff_iff, beq_iff_eq, decide_eq_true_eq, tl_eq]
theorem sz_str (l : List Int) : (strOfNums l).size = l.length := strOfNums_size l
theorem ex_head (s : ByteArray) : bytesOf (s.extract 0 (mn 3 (s.size : Int)).toNat) = (bytesOf s).take 3 := by
  rw [bo_extract, List.drop_zero, Nat.sub_zero]
  unfold mn
  split
  · rw [Int.toNat_natCast, List.take_of_length_le (by rw [bytesOf_length]; omega), List.take_of_length_le (by rw [bytesOf_length]; omega)]
  · rfl
theorem ex_tail (s : ByteArray) (a : Nat) : bytesOf (s.extract a s.size) = (bytesOf s).drop a := by
  rw [bo_extract, List.take_of_length_le (by rw [List.length_drop, bytesOf_length]; omega)]
theorem mx_tail (n : Nat) : (mx 0 ((n : Int) - 3)).toNat = n - 3 := by unfold mx; split <;> omega
theorem mx_le (n : Nat) : 0 ≤ mx 0 ((n : Int) - 3) ∧ mx 0 ((n : Int) - 3) ≤ n := by unfold mx; split <;> omega
theorem mn_le (n : Nat) : 0 ≤ mn 3 (n : Int) ∧ mn 3 (n : Int) ≤ n ∧ (mn 3 (n : Int)).toNat = min 3 n := by unfold mn; split <;> omega
theorem rhead_eq (s : ByteArray) : galleyref05_head.f s = some (strOfNums ((bytesOf s).take 3)) := by
  have h := mn_le s.size
  unfold galleyref05_head.f
  rw [if_pos h.1, if_pos h.2.1]
  congr 1
  apply bo_inj
  rw [ex_head, bo_str _ ((bo_byt s).take 3)]
theorem rtail_eq (s : ByteArray) (hs : s.size ≤ 4611686018427387904) : galleyref05_tail.f s = some (strOfNums ((bytesOf s).drop (s.size - 3))) := by
  have h := mx_le s.size
  unfold galleyref05_tail.f
  rw [w64 (by omega) (by omega), if_pos h.1, if_pos h.2]
  congr 1
  apply bo_inj
  rw [mx_tail, ex_tail, bo_str _ ((bo_byt s).drop _)]
abbrev Ms := Int × Int × Int × Int × ByteArray × ByteArray
def mOf (l : List Int) : Ms := ((l.length : Int), rn l, rn l + fr l, en 0 l, strOfNums (l.take 3), strOfNums (l.drop (l.length - 3)))
def m0 : Ms := (0, 0, 0, 0, ⟨#[]⟩, ⟨#[]⟩)
theorem mOf_nil : mOf [] = m0 := by
  unfold mOf m0
  rfl
theorem weldOf_eq (l : List Int) (hb : Byt l) (hl : l.length ≤ 268435456) : weld_Of.f l = some (mOf l) := by
  have h := mn_le l.length
  have h' := mx_le l.length
  unfold weld_Of.f
  rw [if_neg (by omega), weldSizes_eq l hb (by omega)]
  simp only [Option.bind_some]
  rw [if_pos h.1, if_pos h.2.1, w64 (by omega) (by omega), if_pos h'.1, if_pos h'.2, mx_tail, h.2.2]
  unfold mOf
  have e : l.take (min 3 l.length) = l.take 3 := by
    by_cases h3 : l.length ≤ 3
    · rw [List.take_of_length_le (by omega), List.take_of_length_le h3]
    · rw [show min 3 l.length = 3 by omega]
  rw [e]
theorem refOf_eq (k : Nat) (l : List Int) (hb : Byt l) (hl : l.length ≤ 268435456) (hk : 2 * l.length + 12 ≤ k) : galleyref05_Of.f k l = some (mOf l) := by
  unfold galleyref05_Of.f
  rw [if_neg (by omega), refSizes_eq k l hb (by omega) hk]
  simp only [Option.bind_some]
  rw [rhead_eq, rtail_eq _ (by rw [sz_str]; omega)]
  simp only [Option.bind_some]
  rw [bo_str l hb, sz_str]
  rfl
end Go.Proofs.YteoonhidjldnfaaDoor.PuMs

namespace Go.Proofs.YteoonhidjldnfaaDoor.Pr
open Go.RowKit Go.Proofs.YteoonhidjldnfaaDoor.Math Go.Proofs.YteoonhidjldnfaaDoor.PuMs Go.Proofs.YteoonhidjldnfaaDoorW.PrintWords Go.Proofs.YteoonhidjldnfaaDoorW.PrintLast Go.Proofs.YteoonhidjldnfaaDoorW.PrintMore
set_option linter.unusedVariables false
set_option linter.unusedSimpArgs false
abbrev RowU8 (w : World) (a : Option Addr) (len cap : Nat) (z : List Int) : Prop := (a = none ∧ len = 0 ∧ cap = 0 ∧ z = []) ∨ ∃ x, a = some x ∧ len ≤ cap ∧ cap ≤ maxLen ∧ z.length = cap ∧ (∀ i, i < z.length → w.cell? (x.add i) = some (.int .u8 (z.getD i 0))) ∧ ∀ n ∈ z, (Lit.int .u8 n).wf = true
theorem RowU8.open {w : World} {a : Option Addr} {len cap : Nat} {z : List Int} (h : RowU8 w a len cap z) (y : len * 1 ≤ 140737488351232) :
    ∃ l : List Int, l.length = len ∧ Kd.C (Kd.int .u8) w a l.length l ∧ l.length ≤ cap ∧ Byt l ∧ l.length ≤ 140737488351232 := by
  obtain ⟨l0, rfl, hr0, hm0, hw0, hc0⟩ := ReadsInt.ofRowC h
  exact ⟨l0, rfl, Kd.C_of_reads (d := (0 : Int)) (h1 := fun _ => rfl) hr0, hc0, Byt.of_wf hw0, by omega⟩
def lfC (s : ByteArray) (m : Ms) : Array Value := #[.string s, .int .i64 m.1, .int .i64 m.2.1, .int .i64 m.2.2.1, .int .i64 m.2.2.2.1, .string m.2.2.2.2.1, .string m.2.2.2.2.2]
def Lf (W : World) (b : Nat) (s : ByteArray) : Prop := W.heap[b]? = some (.cells (lfC s (mOf (bytesOf s))) 59 (0, 0))
abbrev lfP (b : Nat) : Value := .pointer (some ⟨b, 0, none⟩)
theorem Lf.lt {W : World} {b : Nat} {s : ByteArray} (h : Lf W b s) : b < W.heap.size := Glob.lt_of_heap h
theorem Lf.below {W W' : World} {b : Nat} {s : ByteArray} (h : Lf W b s) (hb : Below W.heap.size W W') : Lf W' b s := (hb.block _ h.lt).trans h
theorem Lf.drew {W : World} {b : Nat} {s : ByteArray} (h : Lf W b s) : Lf W.drew b s := h
theorem Lf.alloc {W : World} {b : Nat} {s : ByteArray} (h : Lf W b s) (o : Obj) : Lf (W.alloc o) b s := (Below.heap_alloc W o b h.lt).trans h
theorem Lf.bytes {W : World} {b : Nat} {s : ByteArray} (h : Lf W b s) (e : TypeId) (t : ByteArray) : Lf (Lib.bytesWorld W e t) b s := (Lib.bytesWorld_at_old W e t b h.lt).trans h
theorem Lf.cells {W : World} {b : Nat} {s : ByteArray} (h : Lf W b s) : ∃ m : Ms, mOf (bytesOf s) = m ∧ W.cell? ⟨b, 0, none⟩ = some (.string s) ∧ W.cell? ⟨b, 1, none⟩ = some (.int .i64 m.1) ∧ W.cell? ⟨b, 2, none⟩ = some (.int .i64 m.2.1) ∧ W.cell? ⟨b, 3, none⟩ = some (.int .i64 m.2.2.1) ∧ W.cell? ⟨b, 4, none⟩ = some (.int .i64 m.2.2.2.1) ∧ W.cell? ⟨b, 5, none⟩ = some (.string m.2.2.2.2.1) ∧ W.cell? ⟨b, 6, none⟩ = some (.string m.2.2.2.2.2) :=
  ⟨_, rfl, blk_cell h 0, blk_cell h 1, blk_cell h 2, blk_cell h 3, blk_cell h 4, blk_cell h 5, blk_cell h 6⟩
theorem Lf.text {W : World} {b : Nat} {s : ByteArray} (h : Lf W b s) : W.cell? ⟨b, 0, none⟩ = some (.string s) := blk_cell h 0
abbrev msV (m : Ms) : Value := .agg #[.int .i64 m.1, .int .i64 m.2.1, .int .i64 m.2.2.1, .int .i64 m.2.2.2.1, .string m.2.2.2.2.1, .string m.2.2.2.2.2]
theorem wblk {W : World} {b : Nat} {i1 i2 i3 i4 : Int} {s1 s2 : ByteArray} {T : TypeId} (h : W.heap[b]? = some (.cells #[.int .i64 i1, .int .i64 i2, .int .i64 i3, .int .i64 i4, .string s1, .string s2] T (0, 0))) :
    W.cell? ⟨b, 0, none⟩ = some (.int .i64 i1) ∧ W.cell? ⟨b, 1, none⟩ = some (.int .i64 i2) ∧ W.cell? ⟨b, 2, none⟩ = some (.int .i64 i3) ∧ W.cell? ⟨b, 3, none⟩ = some (.int .i64 i4) ∧ W.cell? ⟨b, 4, none⟩ = some (.string s1) ∧ W.cell? ⟨b, 5, none⟩ = some (.string s2) ∧ ∀ j, W.frozen? ⟨b, j, none⟩ = false :=
  ⟨blk_cell h 0, blk_cell h 1, blk_cell h 2, blk_cell h 3, blk_cell h 4, blk_cell h 5, fun j => blk_frozen h j⟩
theorem wset {W : World} {b : Nat} {u0 u1 u2 u3 u4 u5 : Value} {T : TypeId} (h : W.heap[b]? = some (.cells #[u0, u1, u2, u3, u4, u5] T (0, 0))) (v0 v1 v2 v3 v4 v5 : Value) :
    ((((((W.setCell ⟨b, 0, none⟩ v0).setCell ⟨b, 1, none⟩ v1).setCell ⟨b, 2, none⟩ v2).setCell ⟨b, 3, none⟩ v3).setCell ⟨b, 4, none⟩ v4).setCell ⟨b, 5, none⟩ v5).heap[b]? = some (.cells #[v0, v1, v2, v3, v4, v5] T (0, 0)) := by
  refine blk_put (cs := #[v0, v1, v2, v3, v4, u5]) ?_ 5 _ rfl
  refine blk_put (cs := #[v0, v1, v2, v3, u4, u5]) ?_ 4 _ rfl
  refine blk_put (cs := #[v0, v1, v2, u3, u4, u5]) ?_ 3 _ rfl
  refine blk_put (cs := #[v0, v1, u2, u3, u4, u5]) ?_ 2 _ rfl
  refine blk_put (cs := #[v0, u1, u2, u3, u4, u5]) ?_ 1 _ rfl
  exact blk_put (cs := #[u0, u1, u2, u3, u4, u5]) h 0 _ rfl
theorem wset_below {B : Nat} {w W : World} {b : Nat} (h : Below B w W) (hb : B ≤ b) (v0 v1 v2 v3 v4 v5 : Value) :
    Below B w ((((((W.setCell ⟨b, 0, none⟩ v0).setCell ⟨b, 1, none⟩ v1).setCell ⟨b, 2, none⟩ v2).setCell ⟨b, 3, none⟩ v3).setCell ⟨b, 4, none⟩ v4).setCell ⟨b, 5, none⟩ v5) :=
  (((((h.setCell (p := ⟨b, 0, none⟩) hb _).setCell (p := ⟨b, 1, none⟩) hb _).setCell (p := ⟨b, 2, none⟩) hb _).setCell (p := ⟨b, 3, none⟩) hb _).setCell (p := ⟨b, 4, none⟩) hb _).setCell (p := ⟨b, 5, none⟩) hb _
def LfNew (w : World) (s : ByteArray) (e : Ending) (w' : World) : Prop := ∃ b, e = .returned (lfP b) ∧ w.heap.size ≤ b ∧ Lf w' b s ∧ Below w.heap.size w w'
theorem weldOf_any (A : Option Addr) (n c : Nat) (l : List Int) (w : World) (hn : l.length = n) (hb : Byt l) (hl : n ≤ 268435456) (hG : Glob.Globs w) (hr : Kd.C (Kd.int .u8) w A l.length l) (hc : n ≤ c) :
    Calls Tryd.prog 20 #[.slice A n c] w fun e w' => e = .returned (msV (mOf l)) ∧ Below w.heap.size w w' := by
  subst hn
  exact weld_Of.calls A c l _ _ _ _ _ _ w hG hr hc (weldOf_eq l hb hl)
theorem conv_bytes (w : World) (s : ByteArray) : Sem.run Tryd.prog (convert 9 26 (.string s)) w = .ok (.slice (some ⟨w.heap.size, 0, none⟩) s.size (grownCap w s.size 0 5)) (Lib.bytesWorld w 5 s) :=
  Lib.run_convert_string_bytes w 9 26 5 s Tryd.underlying9 Tryd.underlying26 Tryd.underlying5
theorem bytes_below (w : World) (s : ByteArray) : Below w.heap.size w (Lib.bytesWorld w 5 s) := below_bytes 5 s _ (Below.refl _ _) (Nat.le_refl _)
theorem bytes_C (w : World) (s : ByteArray) (hs : s.size ≤ 268435456) : Kd.C (Kd.int .u8) (Lib.bytesWorld w 5 s) (some ⟨w.heap.size, 0, none⟩) (bytesOf s).length (bytesOf s) := C_bytes w 5 s (by omega)
set_option maxHeartbeats 4000000 in
set_option maxRecDepth 100000 in
theorem leaf_made.calls (s : ByteArray) (hs : s.size ≤ 268435456) (w : World) (hG : Glob.Globs w) : Calls Tryd.prog 27 #[.string s] w (LfNew w s) := by
  have HG := Lib.hid hG
  have HS := Lib.hid hs
  clear hG hs
  have hcv := conv_bytes w s
  go_enter Tryd.func27, Tryd.ntmps27
  go_wp2_with fail
  refine (weldOf_any _ _ _ (bytesOf s) _ (bytesOf_length s) (bo_byt s) HS.out (Glob.Globs_below HG.out (bytes_below w s)) (bytes_C w s HS.out) (bytesCells_len w 5 s)).mono ?_
  rintro e w1 ⟨rfl, hb⟩
  have B1 : Below w.heap.size w w1 := below_step (bytes_below w s) hb
  clear hb
  have HB := Lib.hid B1
  clear B1
  go_wp2_with fail
  go_ret
  exact ⟨w1.heap.size, rfl, HB.out.size, blk_new w1 _, HB.out.alloc HB.out.size _⟩
theorem conv_str (A : Option Addr) (c : Nat) (l : List Int) (w : World) (hr : Kd.C (Kd.int .u8) w A l.length l) : Sem.run Tryd.prog (convert 26 9 (.slice A l.length c)) w = .ok (.string (strOfNums l)) w :=
  Kd.C_string (P := Tryd.prog) (A := A) (c := c) Tryd.underlying26 Tryd.underlying5 Tryd.underlying9 hr
set_option maxHeartbeats 4000000 in
set_option maxRecDepth 100000 in
theorem leaf_New.calls (A : Option Addr) (c : Nat) (l : List Int) (hl : l.length ≤ 4096) (w : World) (hG : Glob.Globs w) (hr : Kd.C (Kd.int .u8) w A l.length l) :
    Calls Tryd.prog 10 #[.slice A l.length c] w fun e w' => ∃ b, e = .returned (.tuple #[lfP b, .int .i64 0]) ∧ w.heap.size ≤ b ∧ Lf w' b (strOfNums l) ∧ Below w.heap.size w w' := by
  have HG := Lib.hid hG
  have HR := Lib.hid hr
  have hcv := conv_str A c l w hr
  have ht : decide ((4096 : Int) < (l.length : Int)) = false := decide_eq_false (by omega)
  have hs : (strOfNums l).size ≤ 268435456 := by rw [sz_str]; omega
  have HS := Lib.hid hs
  clear hG hr hs
  go_enter Tryd.func10, Tryd.ntmps10
  go_wp2_with fail
  refine (leaf_made.calls _ HS.out _ HG.out).mono ?_
  rintro e w1 ⟨b, rfl, hb0, hL, hb⟩
  have H1 := Lib.hid hb0
  have H2 := Lib.hid hL
  have H3 := Lib.hid hb
  clear hb0 hL hb
  go_wp2_with fail
  go_ret2
  exact ⟨b, rfl, H1.out, H2.out, H3.out⟩
set_option maxHeartbeats 4000000 in
set_option maxRecDepth 100000 in
theorem leaf_Len.calls (b : Nat) (s : ByteArray) (w : World) (h : Lf w b s) : Calls Tryd.prog 14 #[lfP b] w fun e w' => e = .returned (.int .i64 (s.size : Int)) ∧ w = w' := by
  have hc := h.text
  clear h
  go_enter Tryd.func14, Tryd.ntmps14
  go_wp2_with fail
  go_ret
  exact ⟨rfl, rfl⟩
set_option maxHeartbeats 4000000 in
set_option maxRecDepth 100000 in
theorem leaf_Bytes.calls (b : Nat) (s : ByteArray) (w : World) (h : Lf w b s) : Calls Tryd.prog 19 #[lfP b] w fun e w' => e = .returned (.slice (some ⟨w.heap.size, 0, none⟩) s.size (grownCap w s.size 0 5)) ∧ w' = Lib.bytesWorld w 5 s := by
  have hc := h.text
  have hcv := conv_bytes w s
  clear h
  go_enter Tryd.func19, Tryd.ntmps19
  go_wp2_with fail
  go_ret
  exact ⟨rfl, rfl⟩
set_option maxHeartbeats 4000000 in
set_option maxRecDepth 100000 in
theorem leaf_Weld.calls (b : Nat) (s : ByteArray) (w : World) (h : Lf w b s) : Calls Tryd.prog 15 #[lfP b] w fun e w' => e = .returned (msV (mOf (bytesOf s))) ∧ Below w.heap.size w w' := by
  obtain ⟨m, hm, c0, c1, c2, c3, c4, c5, c6⟩ := (h.alloc (.cells #[.int .i64 0, .int .i64 0, .int .i64 0, .int .i64 0, .string ⟨#[]⟩, .string ⟨#[]⟩] 36)).cells
  rw [hm]
  have hb := h.lt
  have HL := Lib.hid hb
  clear h hm hb c0
  obtain ⟨m1, m2, m3, m4, m5, m6⟩ := m
  dsimp only at c1 c2 c3 c4 c5 c6
  have hne : b ≠ w.heap.size := Nat.ne_of_lt HL.out
  have hne' : w.heap.size ≠ b := Ne.symm hne
  go_enter Tryd.func15, Tryd.ntmps15
  go_wp2_with fail
  exact bodyPost_ret (results_cell_row rfl _ _ w.heap.size 36 #[.int .i64 m1, .int .i64 m2, .int .i64 m3, .int .i64 m4, .string m5, .string m6] (0, 0) _ rfl (blk_new w _) Tryd.underlying36 rfl (by kernel_rfl)) rfl ⟨rfl, (Below.refl _ w).alloc (Nat.le_refl _) _⟩
set_option maxHeartbeats 4000000 in
set_option maxRecDepth 100000 in
theorem leaf_place.ok (b : Nat) (s : ByteArray) (n : Nat) (hn : n ≤ s.size) (hs : s.size ≤ 268435456) (w : World) (h : Lf w b s) : Calls Tryd.prog 32 #[lfP b, .int .i64 (n : Int)] w fun e w' => e = .returned (.int .i64 0) ∧ w = w' := by
  have hc := h.text
  have h1 : decide ((n : Int) < 0) = false := decide_eq_false (by omega)
  have h2 : decide ((s.size : Int) < (n : Int)) = false := decide_eq_false (by omega)
  have h3 : decide (s.size < n) = false := decide_eq_false (by omega)
  clear h hn hs
  go_enter Tryd.func32, Tryd.ntmps32
  go_wp2_with fail
  go_ret
  exact ⟨rfl, rfl⟩
end Go.Proofs.YteoonhidjldnfaaDoor.Pr

namespace Go.Proofs.YteoonhidjldnfaaDoor.Pr
open Go.RowKit Go.Proofs.YteoonhidjldnfaaDoor.Math Go.Proofs.YteoonhidjldnfaaDoor.PuMs Go.Proofs.YteoonhidjldnfaaDoorW.PrintWords Go.Proofs.YteoonhidjldnfaaDoorW.PrintLast Go.Proofs.YteoonhidjldnfaaDoorW.PrintMore
set_option linter.unusedVariables false
set_option linter.unusedSimpArgs false
attribute [local go_sem ↓] Go.wp_at_zero Go.wp_at_succ
theorem ex_size (s : ByteArray) (a b : Nat) (hs : s.size ≤ 268435456) : (s.extract a b).size ≤ 268435456 := by rw [ByteArray.size_extract]; omega
set_option maxHeartbeats 4000000 in
set_option maxRecDepth 100000 in
theorem leaf_Before.ok (b : Nat) (s : ByteArray) (n : Nat) (hn : n ≤ s.size) (hs : s.size ≤ 268435456) (w : World) (hG : Glob.Globs w) (h : Lf w b s) :
    Calls Tryd.prog 17 #[lfP b, .int .i64 (n : Int)] w fun e w' => e = .returned (.tuple #[msV (mOf (bytesOf (s.extract 0 n))), .int .i64 0]) ∧ Below w.heap.size w w' := by
  have HG := Lib.hid hG
  have HL := Lib.hid h
  have HN := Lib.hid hn
  have HS := Lib.hid hs
  have h0 : (0 : Int) ≤ (n : Int) := by omega
  have h1 : (n : Int) ≤ (s.size : Int) := by omega
  have HX := Lib.hid (ex_size s 0 n hs)
  obtain ⟨t, ht⟩ : ∃ t, s.extract 0 n = t := ⟨_, rfl⟩
  rw [ht] at HX
  rw [ht]
  obtain ⟨m, hm⟩ : ∃ m, mOf (bytesOf t) = m := ⟨_, rfl⟩
  have HM := Lib.hid hm
  rw [hm]
  clear hG h hs hn hm
  obtain ⟨m1, m2, m3, m4, m5, m6⟩ := m
  go_enter Tryd.func17, Tryd.ntmps17
  go_wp2_with (first | ((with_reducible refine gate_dst (N := 4) rfl ?_); refine box_event ?hg (N := 4) ?hd (cs := #[.int .i64 0, .int .i64 0, .int .i64 0, .int .i64 0, .string ⟨#[]⟩, .string ⟨#[]⟩]) (t := 36) ?hr ?_; (case hd => rfl); (case hg => rfl); (case hr => first | (go_simp; done) | (go_simp; rfl)); intro gb hg w2 hbox hb; have HL2 := Lib.hid (HL.out.below hb); have hc := HL2.out.text; have hcv := conv_bytes w2 t; have HBK := Lib.hid hbox; have HB := Lib.hid hb; have HGB := Lib.hid hg; clear hbox hb hg) | (go_at_call 32; refine (leaf_place.ok b s n HN.out HS.out _ HL2.out).mono ?_; rintro e w' ⟨rfl, rfl⟩) | (go_at_call 20; refine (weldOf_any _ _ _ (bytesOf t) _ (bytesOf_length t) (bo_byt t) HX.out (Glob.Globs_below (Glob.Globs_below HG.out HB.out) (bytes_below w2 t)) (bytes_C w2 t HX.out) (bytesCells_len w2 5 t)).mono ?_; rw [HM.out]; rintro e w3 ⟨rfl, hb3⟩; have HB3 := Lib.hid (below_step (bytes_below w2 t) hb3); have BK3 := (blk_below HBK.out HB3.out); have HBK3 := Lib.hid BK3; obtain ⟨hz0, hz1, hz2, hz3, hz4, hz5, hzf⟩ := wblk BK3; clear hb3 BK3))
  exact bodyPost_ret (results_ct rfl _ _ gb 36 #[.int .i64 m1, .int .i64 m2, .int .i64 m3, .int .i64 m4, .string m5, .string m6] (0, 0) _ rfl (wset HBK3.out _ _ _ _ _ _) Tryd.underlying36 rfl (by kernel_rfl)) rfl ⟨rfl, wset_below (below_step HB.out HB3.out) (Nat.le_of_eq HGB.out.symm) _ _ _ _ _ _⟩
end Go.Proofs.YteoonhidjldnfaaDoor.Pr

namespace Go.Proofs.YteoonhidjldnfaaDoor.Pr
open Go.RowKit Go.Proofs.YteoonhidjldnfaaDoor.Math Go.Proofs.YteoonhidjldnfaaDoor.PuMs Go.Proofs.YteoonhidjldnfaaDoorW.PrintWords Go.Proofs.YteoonhidjldnfaaDoorW.PrintLast Go.Proofs.YteoonhidjldnfaaDoorW.PrintMore
set_option linter.unusedVariables false
set_option linter.unusedSimpArgs false
attribute [local go_sem ↓] Go.wp_at_zero Go.wp_at_succ
theorem refOf_any (A : Option Addr) (n c : Nat) (l : List Int) (w : World) (hn : l.length = n) (hb : Byt l) (hl : n ≤ 268435456) (hr : Kd.C (Kd.int .u8) w A l.length l) (hc : n ≤ c) :
    Calls Tryd.prog 25 #[.slice A n c] w fun e w' => e = .returned (msV (mOf l)) ∧ Below w.heap.size w w' := by
  subst hn
  exact galleyref05_Of.calls (2 * l.length + 12) A c l _ _ _ _ _ _ w hr hc (refOf_eq _ l hb hl (Nat.le_refl _))
theorem conv_new (w : World) (s : ByteArray) (c : Nat) (hs : s.size ≤ 268435456) : Sem.run Tryd.prog (convert 26 9 (.slice (some ⟨w.heap.size, 0, none⟩) s.size c)) (Lib.bytesWorld w 5 s) = .ok (.string s) (Lib.bytesWorld w 5 s) := by
  have h := conv_str (some ⟨w.heap.size, 0, none⟩) c (bytesOf s) _ (bytes_C w s hs)
  rw [bytesOf_length, str_bo] at h
  exact h
set_option maxHeartbeats 8000000 in
set_option maxRecDepth 100000 in
theorem law_is.ok (b : Nat) (s : ByteArray) (A : Option Addr) (n c : Nat) (l : List Int) (hn : l.length = n) (hl : bytesOf s = l) (hs : s.size ≤ 268435456) (w : World) (h : Lf w b s) (hr : Kd.C (Kd.int .u8) w A l.length l) (hc : n ≤ c) :
    Calls Tryd.prog 22 #[lfP b, .slice A n c] w fun e w' => e = .returned (.bool true) ∧ Below w.heap.size w w' := by
  subst hn
  have hsz : s.size = l.length := by rw [← hl, bytesOf_length]
  have hstr : strOfNums l = s := by rw [← hl, str_bo]
  have HL := Lib.hid h
  have HR := Lib.hid hr
  have HS := Lib.hid hs
  have HN := Lib.hid hl
  have HC := Lib.hid hc
  have HZ := Lib.hid hsz
  have hlb : l.length ≤ 268435456 := by omega
  have HB := Lib.hid hlb
  have hby : Byt l := by rw [← hl]; exact bo_byt s
  have HY := Lib.hid hby
  have HCV := Lib.hid (fun (W : World) (hb : Below w.heap.size w W) => (conv_str A c l W (Kd.C_below hr hb)).trans (by rw [hstr]))
  have e1 : ((s.size : Int) == (l.length : Int)) = true := by rw [hsz]; simp
  have e2 : (s.toList == s.toList) = true := by simp
  have hcv0 := HCV.out w.drew (Below.refl _ w).drew
  have hcv1 := HCV.out (Lib.bytesWorld w.drew 5 s) ((Below.refl _ w).drew.trans (bytes_below w.drew s))
  have hcv2 : Sem.run Tryd.prog (convert 26 9 (.slice (some ⟨w.heap.size, 0, none⟩) s.size (grownCap w.drew s.size 0 5))) (Lib.bytesWorld w.drew 5 s) = .ok (.string s) (Lib.bytesWorld w.drew 5 s) := conv_new w.drew s (grownCap w.drew s.size 0 5) hs
  clear h hr hs hl hc hsz hlb hby hstr
  obtain ⟨m, hm⟩ : ∃ m, mOf l = m := ⟨_, rfl⟩
  have HM := Lib.hid hm
  clear hm
  obtain ⟨m1, m2, m3, m4, m5, m6⟩ := m
  have HL1 := Lib.hid (HL.out.drew.bytes 5 s)
  have HB1 := Lib.hid ((Below.refl _ w).drew.trans (bytes_below w.drew s))
  have HR1 := Lib.hid (Kd.C_below HR.out HB1.out)
  go_enter Tryd.func22, Tryd.ntmps22
  go_wp2_with fail
  go_region_with (first | (go_at_call 14; refine (leaf_Len.calls b s _ (by first | exact HL.out | exact HL.out.drew)).mono ?_; rintro e w' ⟨rfl, rfl⟩) | (go_at_call 19; refine (leaf_Bytes.calls b s _ HL.out.drew).mono ?_; rintro e w' ⟨rfl, rfl⟩) | (go_at_call 15; refine (leaf_Weld.calls b s _ (by first | exact HL1.out | exact HL1.out.below (Hid.out (by assumption)))).mono ?_; rw [HN.out, HM.out]; rintro e w2 ⟨rfl, hb2⟩; have HW2 := Lib.hid hb2; clear hb2) | (go_at_call 25; refine (refOf_any _ _ _ l _ rfl HY.out HB.out (by first | exact HR1.out | exact Kd.C_below HR.out (below_step HB1.out (Hid.out (by assumption)))) HC.out).mono ?_; rw [HM.out]; rintro e w2 ⟨rfl, hb2⟩; have HW2 := Lib.hid hb2; clear hb2))
  all_goals
    have P1 := ‹Hid (Below (Lib.bytesWorld w.drew 5 s).heap.size (Lib.bytesWorld w.drew 5 s) _)›
    go_wp2_with fail
    go_ret
    exact ⟨rfl, below_step (w := w) (below_step (w := w) HB1.out P1.out) HW2.out⟩
end Go.Proofs.YteoonhidjldnfaaDoor.Pr

namespace Go.Proofs.YteoonhidjldnfaaDoor.Math
open Go.RowKit
set_option linter.unusedVariables false
set_option linter.unusedSimpArgs false
theorem whole_lg (l : List Int) (h : Byt l) : whole l = true ↔ l ≠ [] ∧ lg l = l.length := by
  match l, h with
  | [], _ => simp [whole]
  | [x0], h =>
    have b0 := h x0 (by simp)
    simp only [whole, lg, List.length_cons, List.length_nil, decide_eq_true_eq, ne_eq, reduceCtorEq, not_false_eq_true, true_and]
    have := lgT_cases x0 (List.getD [] 0 (-1)) (List.getD [] 1 (-1)) (List.getD [] 2 (-1))
    constructor
    · intro hn
      unfold lgT; rw [if_pos (by unfold need at hn; (repeat' split at hn) <;> omega)]
    · intro hn
      rw [need_1 (by omega)]
  | [x0, x1], h =>
    simp only [whole, lg, List.length_cons, List.length_nil, Bool.and_eq_true, decide_eq_true_eq, ne_eq, reduceCtorEq, not_false_eq_true, true_and, List.getD_cons_zero, List.getD_cons_succ, sec_iff]
    have := lgT_cases x0 x1 (List.getD [] 0 (-1)) (List.getD [] 1 (-1))
    constructor
    · rintro ⟨hn, h1, h2⟩
      have hx : 194 ≤ x0 ∧ x0 < 224 := by unfold need at hn; (repeat' split at hn) <;> omega
      unfold lgT; rw [if_neg (by omega), if_pos (by omega)]
    · intro hn
      rw [need_2 (by omega) (by omega)]
      omega
  | [x0, x1, x2], h =>
    simp only [whole, lg, List.length_cons, List.length_nil, Bool.and_eq_true, decide_eq_true_eq, ne_eq, reduceCtorEq, not_false_eq_true, true_and, List.getD_cons_zero, List.getD_cons_succ, sec_iff, tl_iff]
    constructor
    · rintro ⟨hn, ⟨h1, h2⟩, h3⟩
      have hx : 224 ≤ x0 ∧ x0 < 240 := by unfold need at hn; (repeat' split at hn) <;> omega
      unfold lgT; rw [if_neg (by omega), if_neg (by omega), if_pos (by omega)]
    · intro hn
      unfold lgT at hn
      split at hn
      · omega
      · split at hn
        · omega
        · split at hn
          · rw [need_3 (by omega) (by omega)]; omega
          · split at hn <;> omega
  | [x0, x1, x2, x3], h =>
    simp only [whole, lg, List.length_cons, List.length_nil, Bool.and_eq_true, decide_eq_true_eq, ne_eq, reduceCtorEq, not_false_eq_true, true_and, List.getD_cons_zero, List.getD_cons_succ, sec_iff, tl_iff]
    constructor
    · rintro ⟨hn, ⟨h1, h2⟩, h3, h4⟩
      have hx : 240 ≤ x0 ∧ x0 < 245 := by unfold need at hn; (repeat' split at hn) <;> omega
      unfold lgT; rw [if_neg (by omega), if_neg (by omega), if_neg (by omega), if_pos (by omega)]
    · intro hn
      unfold lgT at hn
      split at hn
      · omega
      · split at hn
        · omega
        · split at hn
          · omega
          · split at hn
            · rw [need_4 (by omega) (by omega)]; omega
            · omega
  | x0 :: x1 :: x2 :: x3 :: x4 :: r, _ =>
    simp only [whole, Bool.false_eq_true, false_iff]
    rintro ⟨_, hn⟩
    have := lg_le (x0 :: x1 :: x2 :: x3 :: x4 :: r)
    rw [hn] at this
    simp at this
theorem enc_whole (l : List Int) (hb : Byt l) (h : whole l = true) : enc (num l) = l := by
  match l, hb, h with
  | [x0], hb, h =>
    have b0 := hb x0 (by simp)
    simp only [whole, decide_eq_true_eq] at h
    have hx : x0 < 128 := by unfold need at h; (repeat' split at h) <;> omega
    rw [show num [x0] = x0 from rfl]
    unfold enc isR enc0
    rw [if_pos (by simp; omega), if_pos hx]
  | [x0, x1], hb, h =>
    simp only [whole, Bool.and_eq_true, decide_eq_true_eq, sec_iff] at h
    have hx : 194 ≤ x0 ∧ x0 < 224 := by obtain ⟨hn, _⟩ := h; unfold need at hn; (repeat' split at hn) <;> omega
    rw [show num [x0, x1] = x0 % 32 * 64 + x1 % 64 from rfl]
    unfold enc isR enc0
    rw [if_pos (by simp; omega), if_neg (by omega), if_pos (by omega)]
    have e0 : 192 + (x0 % 32 * 64 + x1 % 64) / 64 = x0 := by omega
    have e1 : 128 + (x0 % 32 * 64 + x1 % 64) % 64 = x1 := by omega
    rw [e0, e1]
  | [x0, x1, x2], hb, h =>
    simp only [whole, Bool.and_eq_true, decide_eq_true_eq, sec_iff, tl_iff] at h
    have hx : 224 ≤ x0 ∧ x0 < 240 := by obtain ⟨hn, _⟩ := h; unfold need at hn; (repeat' split at hn) <;> omega
    obtain ⟨_, ⟨_, h1, h2, s1, s2, s3, s4⟩, h3, h4⟩ := h
    rw [show num [x0, x1, x2] = (x0 % 16 * 64 + x1 % 64) * 64 + x2 % 64 from rfl]
    unfold enc isR enc0
    rw [if_pos (by simp; omega), if_neg (by omega), if_neg (by omega), if_pos (by omega)]
    have e0 : 224 + ((x0 % 16 * 64 + x1 % 64) * 64 + x2 % 64) / 4096 = x0 := by omega
    have e1 : 128 + ((x0 % 16 * 64 + x1 % 64) * 64 + x2 % 64) / 64 % 64 = x1 := by omega
    have e2 : 128 + ((x0 % 16 * 64 + x1 % 64) * 64 + x2 % 64) % 64 = x2 := by omega
    rw [e0, e1, e2]
  | [x0, x1, x2, x3], hb, h =>
    simp only [whole, Bool.and_eq_true, decide_eq_true_eq, sec_iff, tl_iff] at h
    have hx : 240 ≤ x0 ∧ x0 < 245 := by obtain ⟨hn, _⟩ := h; unfold need at hn; (repeat' split at hn) <;> omega
    obtain ⟨_, ⟨_, h1, h2, s1, s2, s3, s4⟩, ⟨h3, h4⟩, h5, h6⟩ := h
    rw [show num [x0, x1, x2, x3] = ((x0 % 8 * 64 + x1 % 64) * 64 + x2 % 64) * 64 + x3 % 64 from rfl]
    unfold enc isR enc0
    rw [if_pos (by simp; omega), if_neg (by omega), if_neg (by omega), if_neg (by omega)]
    have e0 : 240 + (((x0 % 8 * 64 + x1 % 64) * 64 + x2 % 64) * 64 + x3 % 64) / 262144 = x0 := by omega
    have e1 : 128 + (((x0 % 8 * 64 + x1 % 64) * 64 + x2 % 64) * 64 + x3 % 64) / 4096 % 64 = x1 := by omega
    have e2 : 128 + (((x0 % 8 * 64 + x1 % 64) * 64 + x2 % 64) * 64 + x3 % 64) / 64 % 64 = x2 := by omega
    have e3 : 128 + (((x0 % 8 * 64 + x1 % 64) * 64 + x2 % 64) * 64 + x3 % 64) % 64 = x3 := by omega
    rw [e0, e1, e2, e3]
end Go.Proofs.YteoonhidjldnfaaDoor.Math

namespace Go.Proofs.YteoonhidjldnfaaDoor.PuMs
open Go.RowKit Go.Proofs.YteoonhidjldnfaaDoor.Pr Go.Proofs.YteoonhidjldnfaaDoor.Math Go.Proofs.YteoonhidjldnfaaDoor.PuSz Go.Proofs.YteoonhidjldnfaaDoorW.PrintWords Go.Proofs.YteoonhidjldnfaaDoorW.PrintLast Go.Proofs.YteoonhidjldnfaaDoorW.PrintMore
set_option linter.unusedVariables false
set_option linter.unusedSimpArgs false
theorem rune_size (r : Int) : (strOfRune r).size = (enc r).length := by
  have h := encode_eq r
  have h2 := congrArg List.length h
  rw [str_toList, List.length_map] at h2
  rw [← h2]
  show (Utf8.encode r).size = _
  rw [ByteArray.toList_eq]
  exact (Array.length_toList).symm
theorem lg_take4 (q : List Int) : lg (q.take 4) = lg q := by
  by_cases h : 1 ≤ lg q
  · exact lg_take q 4 (lg_le q) h
  · by_cases h2 : 1 ≤ lg (q.take 4)
    · have := lg_append (q.take 4) (q.drop 4) h2
      rw [List.take_append_drop] at this
      omega
    · omega
theorem prefix_bad (q : List Int) (hb : Byt q) (h : Lib.hasPrefix (strOfNums q).data.toList [239, 191, 189] = true) : lg q = 3 := by
  rw [strOfNums_data] at h
  match q, hb, h with
  | [], _, h => simp [Lib.hasPrefix] at h
  | [x], _, h => simp [Lib.hasPrefix] at h
  | [x, y], _, h => simp [Lib.hasPrefix] at h
  | x :: y :: z :: t, hb, h =>
    have bx := hb x (by simp)
    have b_y := hb y (by simp)
    have bz := hb z (by simp)
    simp [Lib.hasPrefix] at h
    have ex : x = 239 := u8_inj bx (by omega) h.1.symm
    have ey : y = 191 := u8_inj b_y (by omega) h.2.1.symm
    have ez : z = 189 := u8_inj bz (by omega) h.2.2.symm
    subst ex ey ez
    rfl
theorem stepF_wd (q : List Int) (hb : Byt q) (hq : 0 < q.length) : (stepF (strOfNums q)).2.1 = ((wd q : Nat) : Int) := by
  have hd := decode_eq q hb 0 hq
  rw [List.drop_zero] at hd
  unfold stepF
  rw [hd.1]
  by_cases h0 : lg q = 0
  · have hr : ru q = 65533 := by unfold ru; rw [if_pos h0]
    have hp : Lib.hasPrefix (strOfNums q).data.toList [239, 191, 189] = false := by
      rw [Bool.eq_false_iff]
      intro h
      have := prefix_bad q hb h
      omega
    rw [if_pos ⟨by have := hd.1; omega, hp⟩]
    show (1 : Int) = _
    unfold wd
    rw [if_pos h0]
    rfl
  · have hll := lg_len q
    have hw : whole (q.take (lg q)) = true := by
      refine (whole_lg _ (hb.take _)).2 ⟨?_, ?_⟩
      · intro h
        have := congrArg List.length h
        rw [List.length_take, List.length_nil] at this
        omega
      · rw [lg_take q (lg q) (Nat.le_refl _) (by omega), List.length_take]
        omega
    have he := enc_whole _ (hb.take (lg q)) hw
    have hr : ru q = num (q.take (lg q)) := by unfold ru; rw [if_neg h0]
    rw [if_neg]
    · show ((strOfRune (ru q)).size : Int) = _
      rw [rune_size, hr, he, List.length_take]
      unfold wd
      rw [if_neg h0]
      omega
    · rintro ⟨h1, h2⟩
      rw [← hr, ← hd.1, h1] at he
      have h3 : q.take (lg q) = [239, 191, 189] := he.symm
      have h4 : Lib.hasPrefix (strOfNums q).data.toList [239, 191, 189] = true := by
        have e : q = [239, 191, 189] ++ q.drop (lg q) := by rw [← h3, List.take_append_drop]
        rw [e, strOfNums_data, List.map_append]
        simp [Lib.hasPrefix]
      rw [h4] at h2
      cases h2
theorem stepAt_eq (l : List Int) (hb : Byt l) (hl : l.length ≤ 4294967296) (p : Nat) (hp : p < l.length) : ∃ a c, step_at.f l p = some (a, ((wd (l.drop p) : Nat) : Int), c) := by
  unfold step_at.f
  have hm : mn (wrap64 ((p : Int) + 4)) (l.length : Int) = ((min (p + 4) l.length : Nat) : Int) := by
    rw [w64 (by omega) (by omega)]
    unfold mn
    split <;> omega
  rw [hm, if_pos (by omega), if_pos (by omega), if_pos (by omega), Int.toNat_natCast, Int.toNat_natCast]
  have hq : (l.take (min (p + 4) l.length)).drop p = (l.drop p).take 4 := by
    rw [List.drop_take]
    by_cases h : p + 4 ≤ l.length
    · rw [show min (p + 4) l.length - p = 4 by omega]
    · rw [List.take_of_length_le (by rw [List.length_drop]; omega), List.take_of_length_le (by rw [List.length_drop]; omega)]
  rw [hq]
  have hn : 0 < ((l.drop p).take 4).length := by rw [List.length_take, List.length_drop]; omega
  unfold step_first.f
  rw [if_pos (by rw [sz_str]; exact hn)]
  simp only [Option.bind_some]
  have hs := stepF_wd _ ((hb.drop p).take 4) hn
  have hw4 : wd ((l.drop p).take 4) = wd (l.drop p) := by unfold wd; rw [lg_take4]
  rw [hs, hw4]
  exact ⟨_, _, rfl⟩
def insK (l : List Int) (p : Nat) : Nat := if 1 ≤ p ∧ 1 < wd (l.drop (p - 1)) then 1 else if 2 ≤ p ∧ 2 < wd (l.drop (p - 2)) then 2 else if 3 ≤ p ∧ 3 < wd (l.drop (p - 3)) then 3 else 0
def flo (l : List Int) (p : Nat) : Nat := p - insK l p
theorem insK_le (l : List Int) (p : Nat) : insK l p ≤ 3 ∧ insK l p ≤ p := by unfold insK; (repeat' split) <;> omega
theorem inside_next (l : List Int) (hb : Byt l) (hl : l.length ≤ 4294967296) (p j : Nat) (hp : p ≤ l.length) (h1 : 1 ≤ j) (h3 : j ≤ 3) (k : Nat) :
    step_inside.l0 (k + 2) l p j = if j ≤ p then (if j < wd (l.drop (p - j)) then some (j : Int) else step_inside.l0 k l p ((j + 1 : Nat) : Int)) else some 0 := by
  rw [step_inside.l0, if_pos (by omega), step_inside.j1]
  by_cases hj : j ≤ p
  · rw [if_pos hj, if_pos (decide_eq_true (by omega)), w64 (by omega) (by omega), show ((p : Int) - (j : Int)) = ((p - j : Nat) : Int) by omega]
    obtain ⟨a, c, h⟩ := stepAt_eq l hb hl (p - j) (by omega)
    rw [h]
    simp only [Option.bind_some]
    by_cases hw : j < wd (l.drop (p - j))
    · rw [if_pos hw, if_pos (by omega)]
    · rw [if_neg hw, if_neg (by omega), w64 (by omega) (by omega)]
      rfl
  · rw [if_neg hj, if_neg (by simp; omega)]
theorem inside4 (l : List Int) (p : Nat) (k : Nat) : step_inside.l0 (k + 2) l p 4 = some 0 := by
  rw [step_inside.l0, if_neg (by omega), step_inside.j1, if_neg (by decide)]
theorem inside_eq' (k : Nat) (l : List Int) (hb : Byt l) (hl : l.length ≤ 4294967296) (p : Nat) (hp : p ≤ l.length) : step_inside.f (k + 8) l p = some ((insK l p : Nat) : Int) := by
  unfold step_inside.f insK
  rw [show (1 : Int) = ((1 : Nat) : Int) from rfl, show k + 8 = (k + 6) + 2 by omega, inside_next l hb hl p 1 hp (by omega) (by omega) (k + 6)]
  by_cases a1 : 1 ≤ p
  · rw [if_pos a1]
    by_cases b1 : 1 < wd (l.drop (p - 1))
    · rw [if_pos b1, if_pos ⟨a1, b1⟩]
    · rw [if_neg b1, if_neg (fun h => b1 h.2), show k + 6 = (k + 4) + 2 by omega, inside_next l hb hl p 2 hp (by omega) (by omega) (k + 4)]
      by_cases a2 : 2 ≤ p
      · rw [if_pos a2]
        by_cases b2 : 2 < wd (l.drop (p - 2))
        · rw [if_pos b2, if_pos ⟨a2, b2⟩]
        · rw [if_neg b2, if_neg (fun h => b2 h.2), show k + 4 = (k + 2) + 2 by omega, inside_next l hb hl p 3 hp (by omega) (by omega) (k + 2)]
          by_cases a3 : 3 ≤ p
          · rw [if_pos a3]
            by_cases b3 : 3 < wd (l.drop (p - 3))
            · rw [if_pos b3, if_pos ⟨a3, b3⟩]
            · rw [if_neg b3, if_neg (fun h => b3 h.2)]
              exact inside4 l p k
          · rw [if_neg a3, if_neg (fun h => a3 h.1)]
            rfl
      · rw [if_neg a2, if_neg (fun h => a2 h.1), if_neg (fun h => a2 (by omega))]
        rfl
  · rw [if_neg a1, if_neg (fun h => a1 h.1), if_neg (fun h => a1 (by omega)), if_neg (fun h => a1 (by omega))]
    rfl
theorem floor_eq (k : Nat) (l : List Int) (hb : Byt l) (hl : l.length ≤ 4294967296) (p : Nat) (hp : p ≤ l.length) : step_Floor.f (k + 8) l p = some (((flo l p : Nat) : Int), 0) := by
  have h := insK_le l p
  unfold step_Floor.f flo
  rw [if_neg (by omega), if_neg (by omega), inside_eq' k l hb hl p hp]
  simp only [Option.bind_some]
  rw [w64 (by omega) (by omega), show ((p : Int) - ((insK l p : Nat) : Int)) = ((p - insK l p : Nat) : Int) by omega]
theorem wd_lg {l : List Int} {k : Nat} (hk : 1 ≤ k) : k < wd l ↔ k < lg l := by unfold wd; split <;> omega
theorem flo_edge (l : List Int) (p : Nat) : insB l (flo l p) = false := by
  have key : ∀ k, 1 ≤ k → k ≤ p → k < lg (l.drop (p - k)) → insB l (p - k) = false := by
    intro k h1 h2 h3
    rw [Bool.eq_false_iff]
    intro h
    obtain ⟨j, j1, j2, j3, j4⟩ := (insB_true l (p - k)).1 h
    have := lg_drop_tail l (p - k - j) j j1 j4
    rw [show p - k - j + j = p - k by omega] at this
    omega
  unfold flo insK
  split
  · rename_i h
    exact key 1 (by omega) h.1 ((wd_lg (by omega)).1 h.2)
  · rename_i a1
    split
    · rename_i h
      exact key 2 (by omega) h.1 ((wd_lg (by omega)).1 h.2)
    · rename_i a2
      split
      · rename_i h
        exact key 3 (by omega) h.1 ((wd_lg (by omega)).1 h.2)
      · rename_i a3
        rw [Nat.sub_zero, insB_false]
        intro k k1 k3 kp
        have hk : k = 1 ∨ k = 2 ∨ k = 3 := by omega
        rw [← Nat.not_lt, ← wd_lg k1]
        rcases hk with rfl | rfl | rfl
        · exact fun h => a1 ⟨kp, h⟩
        · exact fun h => a2 ⟨kp, h⟩
        · exact fun h => a3 ⟨kp, h⟩
theorem flo_between (l : List Int) (p q : Nat) (h1 : flo l p < q) (h2 : q ≤ p) : insB l q = true := by
  have hc : ∀ k, 1 ≤ k → k ≤ 3 → k ≤ p → k < lg (l.drop (p - k)) → p - k < q → insB l q = true := by
    intro k k1 k3 kp kl kq
    rw [insB_true]
    refine ⟨q - (p - k), by omega, by omega, by omega, ?_⟩
    rw [show q - (q - (p - k)) = p - k by omega]
    omega
  unfold flo insK at h1
  split at h1
  · rename_i h
    exact hc 1 (by omega) (by omega) h.1 ((wd_lg (by omega)).1 h.2) h1
  · split at h1
    · rename_i h
      exact hc 2 (by omega) (by omega) h.1 ((wd_lg (by omega)).1 h.2) h1
    · split at h1
      · rename_i h
        exact hc 3 (by omega) (by omega) h.1 ((wd_lg (by omega)).1 h.2) h1
      · omega
end Go.Proofs.YteoonhidjldnfaaDoor.PuMs

namespace Go.Proofs.YteoonhidjldnfaaDoor.Pr
open Go.RowKit Go.Proofs.YteoonhidjldnfaaDoor.Math Go.Proofs.YteoonhidjldnfaaDoor.PuMs Go.Proofs.YteoonhidjldnfaaDoorW.PrintWords Go.Proofs.YteoonhidjldnfaaDoorW.PrintLast Go.Proofs.YteoonhidjldnfaaDoorW.PrintMore
set_option linter.unusedVariables false
set_option linter.unusedSimpArgs false
def kLf : Kd ByteArray where
  sz := 1
  E := [59]
  K := fun w s cs => ∃ b, cs = [lfP b] ∧ Lf w b s
  M := fun w base ok s cs => ∃ b, cs = [lfP b] ∧ Lf w b s ∧ ok b ∧ base ≤ b
  K_len := by
    rintro w x cs ⟨b, rfl, _⟩
    rfl
  K_one := by
    rintro w x cs ⟨b, rfl, _⟩ u hu
    rw [List.mem_singleton.1 hu]
    rfl
  K_below := by
    rintro w w1 x cs hb ⟨b, rfl, h⟩
    exact ⟨b, rfl, h.below hb⟩
  K_of_M := by
    rintro w base ok x cs ⟨b, rfl, h, _⟩
    exact ⟨b, rfl, h⟩
  M_mono := by
    rintro w base ok ok' x cs hok ⟨b, rfl, h, h1, h2⟩
    exact ⟨b, rfl, h, hok _ h1, h2⟩
  M_bound := by
    rintro w base ok x cs ⟨b, rfl, h, h1, h2⟩
    exact ⟨b, rfl, h, ⟨h1, h2, h.lt, _, List.mem_singleton.2 rfl, _, h⟩, h2⟩
  M_move := by
    rintro w w1 base ok x cs hm ⟨b, rfl, h, h1, h2⟩
    exact ⟨b, rfl, (hm _ h1).trans h, h1, h2⟩
  M_lower := by
    rintro w base base' ok x cs hb ⟨b, rfl, h, h1, h2⟩
    exact ⟨b, rfl, h, h1, Nat.le_trans hb h2⟩
theorem infoLf : (Tryd.prog.info? 22).map (fun i => (i.zero, i.size, i.bytes)) = some (some (.pointer none), 1, 8) := by kernel_rfl
def cutTo (l : List Int) (m p : Nat) : Nat := if 4 ≤ m then flo l (p + m) else p + m
theorem cutTo_in (l : List Int) (m p : Nat) (h1 : 1 ≤ m) : p < cutTo l m p ∧ cutTo l m p ≤ p + m ∧ p + m ≤ cutTo l m p + 3 := by
  have := insK_le l (p + m)
  unfold cutTo flo
  split <;> omega
def cutF (l : List Int) (m : Nat) : Nat → Nat → List (List Int)
  | 0, _ => []
  | f + 1, p => if m < l.length - p then (l.take (cutTo l m p)).drop p :: cutF l m f (cutTo l m p) else if p < l.length then [l.drop p] else []
def cutP (l : List Int) (m : Nat) : List (List Int) := cutF l m (l.length + 1) 0
def CutPost (w : World) (ps : List (List Int)) (e : Ending) (w' : World) : Prop :=
  ∃ v, e = .returned (.tuple #[v, .int .i64 0]) ∧ Kd.R kLf 22 w' w.heap.size (fun _ => True) v (ps.map strOfNums) ∧ Below w.heap.size w w'
set_option maxHeartbeats 4000000 in
set_option maxRecDepth 100000 in
theorem leaf_Cut.bad (A : Option Addr) (n c : Nat) (m : Int) (hm : m < 1 ∨ 4096 < m) (w : World) :
    Calls Tryd.prog 11 #[.slice A n c, .int .i64 m] w fun e w' => e = .returned (.tuple #[.slice none 0 0, .int .i64 80]) ∧ w = w' := by
  by_cases h : m < 1
  · have h1 : decide (m < 1) = true := decide_eq_true h
    clear hm
    go_enter Tryd.func11, Tryd.ntmps11
    go_wp2_with fail
    go_ret2
    exact ⟨rfl, rfl⟩
  · have h1 : decide (m < 1) = false := decide_eq_false h
    have h2 : decide ((4096 : Int) < m) = true := decide_eq_true (by omega)
    clear hm
    go_enter Tryd.func11, Tryd.ntmps11
    go_wp2_with fail
    go_ret2
    exact ⟨rfl, rfl⟩
set_option maxHeartbeats 4000000 in
set_option maxRecDepth 100000 in
theorem leaf_Cut.long (A : Option Addr) (n c : Nat) (m : Int) (hm : 1 ≤ m ∧ m ≤ 4096) (hn : 268435456 < n) (hx : n ≤ 9223372036854775807) (w : World) :
    Calls Tryd.prog 11 #[.slice A n c, .int .i64 m] w fun e w' => e = .returned (.tuple #[.slice none 0 0, .int .i64 5]) ∧ w = w' := by
  have h1 : decide (m < 1) = false := decide_eq_false (by omega)
  have h2 : decide ((4096 : Int) < m) = false := decide_eq_false (by omega)
  have h3 : decide ((268435456 : Int) < (n : Int)) = true := decide_eq_true (by omega)
  clear hm
  go_enter Tryd.func11, Tryd.ntmps11
  go_wp2_with fail
  go_ret2
  exact ⟨rfl, rfl⟩
set_option maxHeartbeats 8000000 in
set_option maxRecDepth 100000 in
theorem leaf_Cut.ok (A : Option Addr) (c : Nat) (l : List Int) (m : Nat) (hm1 : 1 ≤ m) (hm2 : m ≤ 4096) (hl : l.length ≤ 268435456) (hby : Byt l) (w : World) (hG : Glob.Globs w) (hr : Kd.C (Kd.int .u8) w A l.length l) (hc : l.length ≤ c) :
    Calls Tryd.prog 11 #[.slice A l.length c, .int .i64 (m : Int)] w (CutPost w (cutP l m)) := by
  have HG := Lib.hid hG
  have HR := Lib.hid hr
  have HC := Lib.hid hc
  have HY := Lib.hid hby
  have HM := Lib.hid hm1
  have t1 : decide ((m : Int) < 1) = false := decide_eq_false (by omega)
  have t2 : decide ((4096 : Int) < (m : Int)) = false := decide_eq_false (by omega)
  have t3 : decide ((268435456 : Int) < (l.length : Int)) = false := decide_eq_false (by omega)
  have b1 : (m : Int) ≤ 4096 := by omega
  have b2 : (l.length : Int) ≤ 268435456 := by omega
  clear hG hr hc hby hm1 hm2
  obtain ⟨i0, hi0, _, hsz0, _⟩ := info_parts (show (Tryd.prog.info? 5).map (fun i => (i.zero, i.size, i.bytes)) = some (some (.int .u8 0), 1, 1) by kernel_rfl)
  have HI0 := Lib.hid hi0
  have HZ0 := Lib.hid hsz0
  clear hi0 hsz0
  go_enter Tryd.func11, Tryd.ntmps11
  go_wp2_with fail
  go_loopw [6, 7] (fun v6 v7 wr => ∃ (p f : Nat) (ps : List ByteArray), v7 = .int .i64 (p : Int) ∧ Hid (p ≤ l.length ∧ l.length - p < f) ∧ Hid (ps ++ (cutF l m f p).map strOfNums = (cutP l m).map strOfNums) ∧ Hid (ps.length ≤ p) ∧ Hid (Kd.R kLf 22 wr w.heap.size (fun _ => True) v6 ps) ∧ Hid (Below w.heap.size w wr))
    (fun _ i _ => l.length - (intOf i).toNat)
  case atStart => exact ⟨0, l.length + 1, [], rfl, Lib.hid ⟨by omega, by omega⟩, Lib.hid rfl, Lib.hid (Nat.le_refl _), Lib.hid (Kd.R_nil _ _ _ _ _), Lib.hid (Below.refl _ _)⟩
  case round =>
    obtain ⟨p, f, ps, rfl, HP, HS, HN, HO, HB⟩ := hrel
    obtain ⟨f, rfl⟩ : ∃ g, f = g + 1 := ⟨f - 1, by have := HP.out; omega⟩
    have p1 : (p : Int) ≤ (l.length : Int) := by have := HP.out; omega
    have p0 : (0 : Int) ≤ (p : Int) := by omega
    by_cases hlt : m < l.length - p
    · have q1 : decide ((m : Int) < (l.length : Int) - (p : Int)) = true := decide_eq_true (by omega)
      have hin := cutTo_in l m p HM.out
      obtain ⟨z, hz⟩ : ∃ z, cutTo l m p = z := ⟨_, rfl⟩
      rw [hz] at hin
      have HIN := Lib.hid hin
      have HS2 := HS.out
      rw [cutF, if_pos hlt, hz, List.map_cons] at HS2
      have hc4 : 4 ≤ m → flo l (p + m) = z := fun h => by rw [← hz]; unfold cutTo; rw [if_pos h]
      have hc3 : ¬ 4 ≤ m → p + m = z := fun h => by rw [← hz]; unfold cutTo; rw [if_neg h]
      have HC4 := Lib.hid hc4
      have HC3 := Lib.hid hc3
      have hzl : z ≤ l.length := by omega
      obtain ⟨A', hcut, hA, hC⟩ := print_mid_of (P := Tryd.prog) (Value.int .u8) (0 : Int) 26 5 .i64 .i64 Tryd.underlying26 HI0.out HZ0.out A c l (p : Int) (z : Int) p0 (by omega) (by omega) HC.out
      simp only [Int.toNat_natCast] at hcut hA hC
      have HR' := Kd.C_of_reads (h1 := fun _ => rfl) (hA w (Kd.reads_of_C (d := (0 : Int)) HR.out))
      have hpl : ((l.take z).drop p).length ≤ 268435456 := by rw [List.length_drop, List.length_take]; omega
      obtain ⟨pc, hpc⟩ : ∃ pc, (l.take z).drop p = pc := ⟨_, rfl⟩
      rw [hpc] at hcut hC HR' HS2 hpl
      have HSS := Lib.hid HS2
      have HRP := Lib.hid HR'
      have HPS := Lib.hid (show (strOfNums pc).size ≤ 268435456 by rw [sz_str]; exact hpl)
      clear hA hC HR' HS2 hpc hz hin hc4 hc3 hpl
      by_cases h4 : 4 ≤ m
      · have q2 : decide ((4 : Int) ≤ (m : Int)) = true := decide_eq_true (by omega)
        have hfl := floor_eq 0 l HY.out (by omega) (p + m) (by omega)
        rw [HC4.out h4, Int.natCast_add] at hfl
        have HFL := Lib.hid hfl
        clear hfl HC4 HC3 h4
        go_wp2_with (first | (go_at_call 28; refine (step_Floor.calls _ A c l _ (z : Int) 0 _ (Glob.Globs_below HG.out HB.out) (Kd.C_below HR.out HB.out) HC.out HFL.out).mono ?_; rintro e w1 ⟨rfl, hb1⟩; have HB1 := Lib.hid (below_step HB.out hb1); have HO1 := Lib.hid (Kd.R_below HO.out hb1); have hcv := conv_str A' (c - p) pc w1 (Kd.C_below HRP.out HB1.out); clear hb1) | (go_at_call 27; refine (leaf_made.calls _ HPS.out _ (Glob.Globs_below HG.out HB1.out)).mono ?_; rintro e w2 ⟨b, rfl, hb0, hL, hb2⟩; have HB2 := Lib.hid (below_step HB1.out hb2); have HO2 := Lib.hid (Kd.R_below HO1.out hb2); have HL2 := Lib.hid hL; have HLT := Lib.hid (show some b ≠ u6.ownBlock from fun h => absurd (Kd.R_lt HO1.out b h.symm) (by omega)); have HBB := Lib.hid (show w.heap.size ≤ b from Nat.le_trans HB1.out.size hb0); clear hb0 hL hb2) | ((with_reducible refine gate_builtin (b := .append) (xs := #[.tmp 35, .tmp 42]) rfl ?_); at_builtin; refine Kd.R_append kLf (w0 := w) w.heap.size rfl (.tmp 35) (.tmp 42) 27 22 (.pointer none) 8 rfl Tryd.underlying27 infoLf rfl (by decide) (by decide) u6 ps (strOfNums pc) [lfP b] (fun _ => True) (fun k => some k ≠ u6.ownBlock) rfl rfl ?aP (fun k hk => ⟨trivial, hk⟩) (fun _ _ => trivial) HO2.out HB2.out HB2.out.size ?aL ?_; (case aP => exact ⟨b, rfl, HL2.out, HLT.out, HBB.out⟩); (case aL => have := HN.out; omega); intro v3 w3 ho hb3 hg hat; have HO3 := Lib.hid ho; have HB3 := Lib.hid hb3; clear ho hb3 hg hat))
        go_roundw
        case rel => exact ⟨z, f, ps ++ [strOfNums pc], rfl, Lib.hid ⟨hzl, by have := HP.out; have := HIN.out; omega⟩, Lib.hid (by rw [List.append_assoc]; exact HSS.out), Lib.hid (by have := HN.out; have := HIN.out; rw [List.length_append]; simp; omega), HO3, HB3⟩
        case measure => have := HIN.out; have := HP.out; simp [intOf]; omega
      · have q2 : decide ((4 : Int) ≤ (m : Int)) = false := decide_eq_false (by omega)
        have hz3 := HC3.out h4
        have hz3i : (p : Int) + (m : Int) = (z : Int) := by omega
        have hcv := conv_str A' (c - p) pc wr (Kd.C_below HRP.out HB.out)
        clear HC4 HC3 h4 hz3
        go_wp2_with (first | (go_at_call 27; refine (leaf_made.calls _ HPS.out _ (Glob.Globs_below HG.out HB.out)).mono ?_; rintro e w2 ⟨b, rfl, hb0, hL, hb2⟩; have HB2 := Lib.hid (below_step HB.out hb2); have HO2 := Lib.hid (Kd.R_below HO.out hb2); have HL2 := Lib.hid hL; have HLT := Lib.hid (show some b ≠ u6.ownBlock from fun h => absurd (Kd.R_lt HO.out b h.symm) (by omega)); have HBB := Lib.hid (show w.heap.size ≤ b from Nat.le_trans HB.out.size hb0); clear hb0 hL hb2) | ((with_reducible refine gate_builtin (b := .append) (xs := #[.tmp 35, .tmp 42]) rfl ?_); at_builtin; refine Kd.R_append kLf (w0 := w) w.heap.size rfl (.tmp 35) (.tmp 42) 27 22 (.pointer none) 8 rfl Tryd.underlying27 infoLf rfl (by decide) (by decide) u6 ps (strOfNums pc) [lfP b] (fun _ => True) (fun k => some k ≠ u6.ownBlock) rfl rfl ?aP (fun k hk => ⟨trivial, hk⟩) (fun _ _ => trivial) HO2.out HB2.out HB2.out.size ?aL ?_; (case aP => exact ⟨b, rfl, HL2.out, HLT.out, HBB.out⟩); (case aL => have := HN.out; omega); intro v3 w3 ho hb3 hg hat; have HO3 := Lib.hid ho; have HB3 := Lib.hid hb3; clear ho hb3 hg hat))
        go_roundw
        case rel => exact ⟨z, f, ps ++ [strOfNums pc], rfl, Lib.hid ⟨hzl, by have := HP.out; have := HIN.out; omega⟩, Lib.hid (by rw [List.append_assoc]; exact HSS.out), Lib.hid (by have := HN.out; have := HIN.out; rw [List.length_append]; simp; omega), HO3, HB3⟩
        case measure => have := HIN.out; have := HP.out; simp [intOf]; omega
    · have q1 : decide ((m : Int) < (l.length : Int) - (p : Int)) = false := decide_eq_false (by omega)
      have HS2 := HS.out
      rw [cutF, if_neg hlt] at HS2
      by_cases hend : p < l.length
      · rw [if_pos hend] at HS2
        have q3 : decide ((p : Int) < (l.length : Int)) = true := decide_eq_true (by omega)
        have q4 : decide (p < l.length) = true := decide_eq_true hend
        obtain ⟨A', hcut, hA, hC⟩ := print_drop_of (P := Tryd.prog) (Value.int .u8) (0 : Int) 26 5 .i64 Tryd.underlying26 HI0.out HZ0.out A c l (p : Int) p0 p1 HC.out
        simp only [Int.toNat_natCast] at hcut hA hC
        have HR' := Kd.C_of_reads (h1 := fun _ => rfl) (hA w (Kd.reads_of_C (d := (0 : Int)) HR.out))
        have hpl : (l.drop p).length ≤ 268435456 := by rw [List.length_drop]; omega
        obtain ⟨pc, hpc⟩ : ∃ pc, l.drop p = pc := ⟨_, rfl⟩
        rw [hpc] at hcut hC HR' HS2 hpl
        have HSS := Lib.hid HS2
        have HRP := Lib.hid HR'
        have HPS := Lib.hid (show (strOfNums pc).size ≤ 268435456 by rw [sz_str]; exact hpl)
        clear hA hC HR' HS2 hpc hpl hend
        have hcv := conv_str A' (c - p) pc wr (Kd.C_below HRP.out HB.out)
        go_wp2_with (first | (go_at_call 27; refine (leaf_made.calls _ HPS.out _ (Glob.Globs_below HG.out HB.out)).mono ?_; rintro e w2 ⟨b, rfl, hb0, hL, hb2⟩; have HB2 := Lib.hid (below_step HB.out hb2); have HO2 := Lib.hid (Kd.R_below HO.out hb2); have HL2 := Lib.hid hL; have HLT := Lib.hid (show some b ≠ u6.ownBlock from fun h => absurd (Kd.R_lt HO.out b h.symm) (by omega)); have HBB := Lib.hid (show w.heap.size ≤ b from Nat.le_trans HB.out.size hb0); clear hb0 hL hb2) | ((with_reducible refine gate_builtin (b := .append) (xs := #[.tmp 49, .tmp 55]) rfl ?_); at_builtin; refine Kd.R_append kLf (w0 := w) w.heap.size rfl (.tmp 49) (.tmp 55) 27 22 (.pointer none) 8 rfl Tryd.underlying27 infoLf rfl (by decide) (by decide) u6 ps (strOfNums pc) [lfP b] (fun _ => True) (fun k => some k ≠ u6.ownBlock) rfl rfl ?aP (fun k hk => ⟨trivial, hk⟩) (fun _ _ => trivial) HO2.out HB2.out HB2.out.size ?aL ?_; (case aP => exact ⟨b, rfl, HL2.out, HLT.out, HBB.out⟩); (case aL => have := HN.out; omega); intro v3 w3 ho hb3 hg hat; have HO3 := Lib.hid ho; have HB3 := Lib.hid hb3; clear ho hb3 hg hat))
        go_ret2
        exact ⟨v3, rfl, by have h := HSS.out; rw [List.map_cons, List.map_nil] at h; rw [← h]; exact HO3.out, HB3.out⟩
      · rw [if_neg hend] at HS2
        have q3 : decide ((p : Int) < (l.length : Int)) = false := decide_eq_false (by omega)
        have q4 : decide (p < l.length) = false := decide_eq_false hend
        rw [List.map_nil, List.append_nil] at HS2
        have HSS := Lib.hid HS2
        clear HS2 hend
        go_wp2_with fail
        go_ret2
        exact ⟨u6, rfl, by rw [← HSS.out]; exact HO.out, HB.out⟩
end Go.Proofs.YteoonhidjldnfaaDoor.Pr

namespace Go.Proofs.YteoonhidjldnfaaDoor.Pr
open Go.RowKit Go.Proofs.YteoonhidjldnfaaDoor.Math Go.Proofs.YteoonhidjldnfaaDoor.PuMs Go.Proofs.YteoonhidjldnfaaDoorW.PrintWords Go.Proofs.YteoonhidjldnfaaDoorW.PrintLast Go.Proofs.YteoonhidjldnfaaDoorW.PrintMore
set_option linter.unusedVariables false
set_option linter.unusedSimpArgs false
theorem leaves_open {W : World} {base : Nat} {ok : Nat → Prop} {v : Value} {ps : List ByteArray} (h : Kd.R kLf 22 W base ok v ps) (hn : 0 < ps.length) :
    ∃ g c, v = .slice (some ⟨g, 0, none⟩) ps.length c ∧ ps.length ≤ c ∧ base ≤ g ∧ ∀ i (hi : i < ps.length), ∃ b, W.cell? ⟨g, i, none⟩ = some (lfP b) ∧ Lf W b ps[i] := by
  obtain ⟨_, inner, ho, hr⟩ := h
  rcases ho.2 with ⟨rfl, h0⟩ | ⟨g, cap, cur, rfl, hg, hh, h1, h2, h3, h4⟩
  · omega
  · refine ⟨g, cap, rfl, h1, hg, fun i hi => ?_⟩
    obtain ⟨b, hb, hL, _⟩ := hr.2 i ps[i] (List.getElem?_eq_getElem hi)
    have hsz : kLf.sz = 1 := rfl
    rw [hsz] at h4 hb
    rw [Nat.mul_one] at h4 hb
    refine ⟨b, ?_, hL⟩
    rw [cell_of_row _ _ _ _ _ _ hh]
    have e : inner[i]? = some (lfP b) := by
      have := congrArg (fun z => z[0]?) hb
      simp at this
      exact this
    rw [← h4, List.getElem?_take, if_pos hi, Array.getElem?_toList] at e
    exact e
theorem C_lit (w : World) (e : TypeId) (xs : List Int) (fr : Nat × Nat) (h : xs.length ≤ 9223372036854775807) :
    Kd.C (Kd.int .u8) (w.alloc (.cells (xs.map (Value.int .u8)).toArray e fr)) (some ⟨w.heap.size, 0, none⟩) xs.length xs := by
  refine Kd.C_of_reads (d := (0 : Int)) (h1 := fun _ => rfl) ⟨rfl, h, fun _ => ⟨_, rfl, fun j hj => ?_⟩⟩
  rw [add_plain, cell_of_row _ _ j _ e fr (heap_alloc_new w _)]
  simp [List.getElem?_eq_getElem hj, List.getD_eq_getElem?_getD]
set_option maxRecDepth 100000 in
theorem fx_cut : cutP [97, 240, 159, 152, 128, 98, 99] 4 = [[97], [240, 159, 152, 128], [98, 99]] := by kernel_rfl
set_option maxRecDepth 100000 in
theorem fx_head : (mOf (bytesOf ((strOfNums [195, 169, 13]).extract 0 1))).2.2.2.2.1 = ⟨#[195]⟩ := by kernel_rfl
theorem leaf_Len.keeps (b : Nat) (s : ByteArray) (w : World) (h : Lf w b s) : Calls Tryd.prog 14 #[lfP b] w fun e w' => e = .returned (.int .i64 (s.size : Int)) ∧ Below w.heap.size w w' :=
  (leaf_Len.calls b s w h).mono fun _ _ h => ⟨h.1, h.2 ▸ Below.refl _ _⟩
theorem bw_cell {w W : World} {e : TypeId} {s : ByteArray} {g i : Nat} {v : Value} (h : W.cell? ⟨g, i, none⟩ = some v) : (Lib.bytesWorld W e s).cell? ⟨g, i, none⟩ = some v :=
  (Lib.bytesWorld_old W e s ⟨g, i, none⟩ (World.block_lt_of_cell? W _ h)).trans h
theorem below_cell {w W : World} {g i : Nat} {v : Value} (hb : Below w.heap.size w W) (h : w.cell? ⟨g, i, none⟩ = some v) : W.cell? ⟨g, i, none⟩ = some v := (hb.cell (World.block_lt_of_cell? w _ h)).trans h
set_option maxHeartbeats 8000000 in
set_option maxRecDepth 100000 in
theorem law_fixed.calls (w : World) (hG : Glob.Globs w) : Calls Tryd.prog 12 #[] w fun e w' => e = .returned (.bool true) ∧ Below w.heap.size w w' := by
  have HG := Lib.hid hG
  clear hG
  have kc := fun (w : World) (C : Array Value) (n c : Nat) => Lib.run_convert_bytes_const (P := Tryd.prog) w 26 5 C n c Tryd.underlying26 Tryd.underlying5
  go_enter Tryd.func12, Tryd.ntmps12
  go_wp2_with fail
  refine (leaf_New.calls _ 3 [195, 169, 13] (by decide) _ (Glob.Globs_alloc HG.out _) (C_lit w 5 [195, 169, 13] (3, 4) (by decide))).mono ?_
  rintro e w1 ⟨b, rfl, hb0, hL, hb⟩
  have HB1 := Lib.hid (below_step ((Below.refl _ w).alloc (Nat.le_refl _) _) hb)
  obtain ⟨s0, hs0⟩ : ∃ s0, strOfNums [195, 169, 13] = s0 := ⟨_, rfl⟩
  rw [hs0] at hL
  have HL1 := Lib.hid hL
  have HE := Lib.hid hs0
  have e1 : ((s0.size : Int) == 3) = true := by rw [← hs0]; rfl
  have e2 : (s0.toList == [195, 169, 13]) = true := by rw [← hs0, str_toList]; rfl
  have HZ := Lib.hid (show s0.size = 3 by rw [← hs0]; rfl)
  clear hb0 hL hb hs0
  go_wp2_with fail
  refine (leaf_Cut.ok _ 7 [97, 240, 159, 152, 128, 98, 99] 4 (by decide) (by decide) (by decide) (by unfold Byt; decide) _ (Glob.Globs_alloc (Glob.Globs_below HG.out HB1.out) _) (C_lit w1 5 [97, 240, 159, 152, 128, 98, 99] (7, 8) (by decide)) (by decide)).mono ?_
  rintro e w2 ⟨v, rfl, hR, hb⟩
  have HB2 := Lib.hid (below_step HB1.out ((below_step ((Below.refl _ w1).alloc (Nat.le_refl _) _) hb)))
  have HL2 := Lib.hid (HL1.out.below (below_step ((Below.refl _ w1).alloc (Nat.le_refl _) _) hb))
  rw [fx_cut] at hR
  obtain ⟨g, c, rfl, hlc, hg, hat⟩ := leaves_open hR (by decide)
  obtain ⟨b0, hc0, hL0⟩ := hat 0 (by decide)
  obtain ⟨b1, hc1, hL1⟩ := hat 1 (by decide)
  obtain ⟨b2, hc2, hL2⟩ := hat 2 (by decide)
  have HC0 := Lib.hid hc0
  have HC1 := Lib.hid hc1
  have HC2 := Lib.hid hc2
  obtain ⟨u0, hu0⟩ : ∃ u, strOfNums [97] = u := ⟨_, rfl⟩
  obtain ⟨u1, hu1⟩ : ∃ u, strOfNums [240, 159, 152, 128] = u := ⟨_, rfl⟩
  obtain ⟨u2, hu2⟩ : ∃ u, strOfNums [98, 99] = u := ⟨_, rfl⟩
  replace hL0 : Lf w2 b0 u0 := hu0 ▸ hL0
  replace hL1 : Lf w2 b1 u1 := hu1 ▸ hL1
  replace hL2 : Lf w2 b2 u2 := hu2 ▸ hL2
  have z0 : ((u0.size : Int) == 1) = true := by rw [← hu0]; rfl
  have z1 : ((u1.size : Int) == 4) = true := by rw [← hu1]; rfl
  have z2 : ((u2.size : Int) == 2) = true := by rw [← hu2]; rfl
  have HLA := Lib.hid hL0
  have HLB := Lib.hid hL1
  have HLC := Lib.hid hL2
  have hc3 : 3 ≤ c := hlc
  clear hu0 hu1 hu2
  clear hR hat hg hb hc0 hc1 hc2 hL0 hL1 hL2 hlc
  go_wp2_with fail
  refine (leaf_Before.ok b s0 1 (by rw [HZ.out]; decide) (by rw [HZ.out]; decide) w2 (Glob.Globs_below HG.out HB2.out) HL2.out).mono ?_
  rintro e w3 ⟨rfl, hb3⟩
  obtain ⟨m, hm⟩ : ∃ m, mOf (bytesOf (s0.extract 0 1)) = m := ⟨_, rfl⟩
  have hm5 : m.2.2.2.2.1 = ⟨#[195]⟩ := by rw [← hm, ← HE.out]; exact fx_head
  rw [hm]
  clear hm
  obtain ⟨m1, m2, m3, m4, m5, m6⟩ := m
  dsimp only at hm5
  subst hm5
  have HB3 := Lib.hid hb3
  clear hb3
  go_wp2_with fail
  refine (leaf_Len.keeps b s0 _ ((HL2.out.below HB3.out).alloc _)).mono ?_
  rintro e w4 ⟨rfl, hb4⟩
  have HD := Lib.hid (below_step ((Below.refl _ w3).alloc (Nat.le_refl _) _) hb4)
  have hw := (hb4.block _ (Glob.lt_of_heap (blk_new w3 _))).trans (blk_new w3 _)
  have hx4 : w4.cell? ⟨w3.heap.size, 4, none⟩ = some (.string ⟨#[195]⟩) := blk_cell hw 4
  have hB : Below w2.heap.size w2 w4 := below_step HB3.out HD.out
  have HB4 := Lib.hid hB
  have HL4 := Lib.hid (HL2.out.below hB)
  have HX := Lib.hid hx4
  clear hb4 hw hx4 hB
  have hcv := conv_new w4 s0 (grownCap w4 s0.size 0 5) (by rw [HZ.out]; decide)
  have y4 := bw_cell (w := w) (e := 5) (s := s0) HX.out
  have y0 := bw_cell (w := w) (e := 5) (s := s0) (below_cell HB4.out HC0.out)
  have y1 := bw_cell (w := w) (e := 5) (s := s0) (below_cell HB4.out HC1.out)
  have y2 := bw_cell (w := w) (e := 5) (s := s0) (below_cell HB4.out HC2.out)
  go_wp2_with (first | (go_at_call 19; (with_reducible refine (leaf_Bytes.calls b s0 _ HL4.out).mono ?_); rintro e w' ⟨rfl, rfl⟩) | (go_at_call 14; (with_reducible refine (leaf_Len.calls b0 u0 _ ?side1).mono ?_); (case side1 => exact (HLA.out.below HB4.out).bytes _ _); rintro e w' ⟨rfl, rfl⟩) | (go_at_call 14; (with_reducible refine (leaf_Len.calls b1 u1 _ ?side1).mono ?_); (case side1 => exact (HLB.out.below HB4.out).bytes _ _); rintro e w' ⟨rfl, rfl⟩) | (go_at_call 14; (with_reducible refine (leaf_Len.calls b2 u2 _ ?side1).mono ?_); (case side1 => exact (HLC.out.below HB4.out).bytes _ _); rintro e w' ⟨rfl, rfl⟩))
  go_ret
  exact ⟨rfl, below_step HB2.out (below_step HB4.out (bytes_below w4 s0))⟩
end Go.Proofs.YteoonhidjldnfaaDoor.Pr

namespace Go.Proofs.YteoonhidjldnfaaDoor.Pr
open Go.RowKit Go.Proofs.YteoonhidjldnfaaDoor.Math Go.Proofs.YteoonhidjldnfaaDoor.PuSz Go.Proofs.YteoonhidjldnfaaDoor.PuMs Go.Proofs.YteoonhidjldnfaaDoorW.PrintWords Go.Proofs.YteoonhidjldnfaaDoorW.PrintLast Go.Proofs.YteoonhidjldnfaaDoorW.PrintMore
set_option linter.unusedVariables false
set_option linter.unusedSimpArgs false
abbrev Sl : Type := Option Addr × Nat × Nat
def kSl : Kd Sl := Kd.scalar (fun x => .slice x.1 x.2.1 x.2.2) (fun _ => rfl)
theorem infoSl : (Tryd.prog.info? 26).map (fun i => (i.zero, i.size, i.bytes)) = some (some (.slice none 0 0), 1, 24) := by kernel_rfl
def SlAre (w : World) (vs : List Sl) (ps : List (List Int)) : Prop := vs.length = ps.length ∧ ∀ i (h : i < vs.length) (h' : i < ps.length), ∃ A c, vs[i] = (A, (ps[i]).length, c) ∧ (ps[i]).length ≤ c ∧ Kd.C (Kd.int .u8) w A (ps[i]).length ps[i]
theorem SlAre.nil (w : World) : SlAre w [] [] := ⟨rfl, fun i h => absurd h (by simp)⟩
theorem SlAre.snoc {w : World} {vs : List Sl} {ps : List (List Int)} (h : SlAre w vs ps) (A : Option Addr) (c : Nat) (p : List Int) (hc : p.length ≤ c) (hr : Kd.C (Kd.int .u8) w A p.length p) : SlAre w (vs ++ [(A, p.length, c)]) (ps ++ [p]) := by
  refine ⟨by rw [List.length_append, List.length_append, h.1]; rfl, fun i hi hi' => ?_⟩
  by_cases hlt : i < vs.length
  · obtain ⟨A, c, e1, e2, e3⟩ := h.2 i hlt (by rw [← h.1]; exact hlt)
    refine ⟨A, c, ?_, ?_, ?_⟩
    · rw [List.getElem_append_left hlt, List.getElem_append_left (by rw [← h.1]; exact hlt)]; exact e1
    · rw [List.getElem_append_left (by rw [← h.1]; exact hlt)]; exact e2
    · rw [List.getElem_append_left (by rw [← h.1]; exact hlt)]; exact e3
  · have hie : i = vs.length := by rw [List.length_append] at hi; simp at hi; omega
    subst hie
    have e : (ps ++ [p])[vs.length] = p := by simp [h.1]
    rw [e]
    exact ⟨A, c, by simp, hc, hr⟩
theorem SlAre.below {w w1 : World} {vs : List Sl} {ps : List (List Int)} (h : SlAre w vs ps) (hb : Below w.heap.size w w1) : SlAre w1 vs ps :=
  ⟨h.1, fun i hi hi' => by obtain ⟨A, c, e1, e2, e3⟩ := h.2 i hi hi'; exact ⟨A, c, e1, e2, Kd.C_below e3 hb⟩⟩
def RefCutPost (w : World) (ps : List (List Int)) (e : Ending) (w' : World) : Prop :=
  ∃ v vs, e = .returned (.tuple #[v, .int .i64 0]) ∧ Kd.R kSl 26 w' w.heap.size (fun _ => True) v vs ∧ SlAre w vs ps ∧ Below w.heap.size w w'
set_option maxHeartbeats 4000000 in
set_option maxRecDepth 100000 in
theorem refCut.bad (A : Option Addr) (n c : Nat) (m : Int) (hm : m < 1 ∨ 4096 < m) (w : World) :
    Calls Tryd.prog 21 #[.slice A n c, .int .i64 m] w fun e w' => e = .returned (.tuple #[.slice none 0 0, .int .i64 80]) ∧ w = w' := by
  by_cases h : m < 1
  · have h1 : decide (m < 1) = true := decide_eq_true h
    clear hm
    go_enter Tryd.func21, Tryd.ntmps21
    go_wp2_with fail
    go_ret2
    exact ⟨rfl, rfl⟩
  · have h1 : decide (m < 1) = false := decide_eq_false h
    have h2 : decide ((4096 : Int) < m) = true := decide_eq_true (by omega)
    clear hm
    go_enter Tryd.func21, Tryd.ntmps21
    go_wp2_with fail
    go_ret2
    exact ⟨rfl, rfl⟩
set_option maxHeartbeats 4000000 in
set_option maxRecDepth 100000 in
theorem refCut.long (A : Option Addr) (n c : Nat) (m : Int) (hm : 1 ≤ m ∧ m ≤ 4096) (hn : 268435456 < n) (hx : n ≤ 9223372036854775807) (w : World) :
    Calls Tryd.prog 21 #[.slice A n c, .int .i64 m] w fun e w' => e = .returned (.tuple #[.slice none 0 0, .int .i64 5]) ∧ w = w' := by
  have h1 : decide (m < 1) = false := decide_eq_false (by omega)
  have h2 : decide ((4096 : Int) < m) = false := decide_eq_false (by omega)
  have h3 : decide ((268435456 : Int) < (n : Int)) = true := decide_eq_true (by omega)
  clear hm
  go_enter Tryd.func21, Tryd.ntmps21
  go_wp2_with fail
  go_ret2
  exact ⟨rfl, rfl⟩
theorem inside_at (A : Option Addr) (c : Nat) (l : List Int) (p : Nat) (hb : Byt l) (hl : l.length ≤ 268435456) (hp : p ≤ l.length) (w : World) (hr : Kd.C (Kd.int .u8) w A l.length l) (hc : l.length ≤ c) (b : Bool) (he : insB l p = b) :
    Calls Tryd.prog 29 #[.slice A l.length c, .int .i64 (p : Int)] w fun e w' => e = .returned (.bool b) ∧ Below w.heap.size w w' := by
  refine (galleyref02_Inside.calls 7 A c l (p : Int) b w hr hc ?_).mono ?_
  · rw [inside_eq 0 l hb (by omega) p (by omega), he]
  · exact fun _ _ h => ⟨h.1, h.2.below⟩
theorem cutTo_ins (l : List Int) (m p t : Nat) (h1 : cutTo l m p ≤ t) (h2 : t ≤ p + m) : (cutTo l m p < t → 4 ≤ m ∧ insB l t = true) ∧ (t = cutTo l m p → 4 ≤ m → insB l t = false) := by
  unfold cutTo at *
  split at h1
  · rename_i h4
    rw [if_pos h4]
    exact ⟨fun h => ⟨h4, flo_between l (p + m) t h h2⟩, fun h _ => by rw [h]; exact flo_edge l _⟩
  · rename_i h4
    rw [if_neg h4]
    exact ⟨fun h => by omega, fun _ h => absurd h h4⟩
set_option maxHeartbeats 8000000 in
set_option maxRecDepth 100000 in
theorem refCut.ok (A : Option Addr) (c : Nat) (l : List Int) (m : Nat) (hm1 : 1 ≤ m) (hm2 : m ≤ 4096) (hl : l.length ≤ 268435456) (hby : Byt l) (w : World) (hr : Kd.C (Kd.int .u8) w A l.length l) (hc : l.length ≤ c) :
    Calls Tryd.prog 21 #[.slice A l.length c, .int .i64 (m : Int)] w (RefCutPost w (cutP l m)) := by
  have HR := Lib.hid hr
  have HC := Lib.hid hc
  have HY := Lib.hid hby
  have HM := Lib.hid hm1
  have HLL := Lib.hid hl
  have t1 : decide ((m : Int) < 1) = false := decide_eq_false (by omega)
  have t2 : decide ((4096 : Int) < (m : Int)) = false := decide_eq_false (by omega)
  have t3 : decide ((268435456 : Int) < (l.length : Int)) = false := decide_eq_false (by omega)
  have b1 : (m : Int) ≤ 4096 := by omega
  have b2 : (l.length : Int) ≤ 268435456 := by omega
  clear hr hc hby hm1 hm2 hl
  obtain ⟨i0, hi0, _, hsz0, _⟩ := info_parts (show (Tryd.prog.info? 5).map (fun i => (i.zero, i.size, i.bytes)) = some (some (.int .u8 0), 1, 1) by kernel_rfl)
  have HI0 := Lib.hid hi0
  have HZ0 := Lib.hid hsz0
  clear hi0 hsz0
  go_enter Tryd.func21, Tryd.ntmps21
  go_wp2_with fail
  go_loopw [6, 7] (fun v6 v7 wr => ∃ (p f : Nat) (vs : List Sl) (ps : List (List Int)), v7 = .int .i64 (p : Int) ∧ Hid (p ≤ l.length ∧ l.length - p < f) ∧ Hid (ps ++ cutF l m f p = cutP l m) ∧ Hid (ps.length ≤ p) ∧ Hid (SlAre w vs ps) ∧ Hid (Kd.R kSl 26 wr w.heap.size (fun _ => True) v6 vs) ∧ Hid (Below w.heap.size w wr))
    (fun _ i _ => l.length - (intOf i).toNat)
  case atStart => exact ⟨0, l.length + 1, [], [], rfl, Lib.hid ⟨by omega, by omega⟩, Lib.hid rfl, Lib.hid (Nat.le_refl _), Lib.hid (SlAre.nil _), Lib.hid (Kd.R_nil _ _ _ _ _), Lib.hid (Below.refl _ _)⟩
  case round =>
    obtain ⟨p, f, vs, ps, rfl, HP, HS, HN, HV, HO, HB⟩ := hrel
    obtain ⟨f, rfl⟩ : ∃ g, f = g + 1 := ⟨f - 1, by have := HP.out; omega⟩
    have p1 : (p : Int) ≤ (l.length : Int) := by have := HP.out; omega
    have p0 : (0 : Int) ≤ (p : Int) := by omega
    by_cases hlt : m < l.length - p
    · have q1 : decide ((m : Int) < (l.length : Int) - (p : Int)) = true := decide_eq_true (by omega)
      have hin := cutTo_in l m p HM.out
      obtain ⟨z, hz⟩ : ∃ z, cutTo l m p = z := ⟨_, rfl⟩
      rw [hz] at hin
      have HIN := Lib.hid hin
      have HS2 := HS.out
      rw [cutF, if_pos hlt, hz] at HS2
      have hzl : z ≤ l.length := by omega
      obtain ⟨A', hcut, hA, hC⟩ := print_mid_of (P := Tryd.prog) (Value.int .u8) (0 : Int) 26 5 .i64 .i64 Tryd.underlying26 HI0.out HZ0.out A c l (p : Int) (z : Int) p0 (by omega) (by omega) HC.out
      simp only [Int.toNat_natCast] at hcut hA hC
      have HR' := Kd.C_of_reads (h1 := fun _ => rfl) (hA w (Kd.reads_of_C (d := (0 : Int)) HR.out))
      obtain ⟨pc, hpc⟩ : ∃ pc, (l.take z).drop p = pc := ⟨_, rfl⟩
      rw [hpc] at hcut hC HR' HS2
      have HSS := Lib.hid HS2
      have HRP := Lib.hid HR'
      have HCP := Lib.hid hC
      have HZI := Lib.hid hz
      have HLT := Lib.hid hlt
      clear hA hC HR' HS2 hpc hz hin hlt
      go_wp2_with fail
      go_loopw [8] (fun v8 w2 => ∃ (t : Nat), v8 = .int .i64 (t : Int) ∧ Hid (z ≤ t ∧ t ≤ p + m) ∧ Hid (Below wr.heap.size wr w2)) (fun i _ => (intOf i).toNat)
      case atStart => exact ⟨p + m, by simp, Lib.hid ⟨by have := HIN.out; omega, Nat.le_refl _⟩, Lib.hid (Below.refl _ _)⟩
      case round =>
        obtain ⟨t, rfl, HT, HB2⟩ := hrel
        have hci := cutTo_ins l m p t (by rw [HZI.out]; exact HT.out.1) HT.out.2
        rw [HZI.out] at hci
        have k1 : (t : Int) ≤ 268435456 := by have := HT.out; have := HLT.out; omega
        have k0 : (0 : Int) ≤ (t : Int) := by omega
        have HTL := Lib.hid (show t ≤ l.length by have := HT.out; have := HLT.out; omega)
        by_cases hzt : z < t
        · have h4 := hci.1 hzt
          have q2 : decide ((4 : Int) ≤ (m : Int)) = true := decide_eq_true (by omega)
          have HI := Lib.hid h4.2
          have HZT := Lib.hid hzt
          have k2 : (1 : Int) ≤ (t : Int) := by omega
          clear hci h4 hzt
          go_wp2_with (go_at_call 29; (with_reducible refine (inside_at A c l t HY.out HLL.out HTL.out _ ?side1 HC.out true HI.out).mono ?_); (case side1 => exact Kd.C_below HR.out (below_step HB.out HB2.out)); rintro e w3 ⟨rfl, hb⟩; have HB3 := Lib.hid (below_step HB2.out hb); clear hb)
          go_roundw
          case rel => exact ⟨t - 1, by congr 1; have := HZT.out; omega, Lib.hid ⟨by have := HZT.out; omega, by have := HT.out; omega⟩, HB3⟩
          case measure => have := HZT.out; simp [intOf]; omega
        · have hze : t = z := by have := HT.out; omega
          subst hze
          have h5 := hci.2 rfl
          by_cases h4 : 4 ≤ m
          · have q2 : decide ((4 : Int) ≤ (m : Int)) = true := decide_eq_true (by omega)
            have HI := Lib.hid (h5 h4)
            clear hci h5 h4
            go_wp2_with (first | (go_at_call 29; (with_reducible refine (inside_at A c l t HY.out HLL.out HTL.out _ ?side1 HC.out false HI.out).mono ?_); (case side1 => exact Kd.C_below HR.out (below_step HB.out HB2.out)); rintro e w3 ⟨rfl, hb⟩; have HO2 := Lib.hid (Kd.R_below HO.out (below_step HB2.out hb)); have HBB := Lib.hid (below_step HB.out (below_step HB2.out hb)); clear hb) | ((with_reducible refine gate_builtin (b := .append) (xs := #[.tmp 36, .tmp 41]) rfl ?_); at_builtin; refine Kd.R_append kSl (w0 := w) w.heap.size rfl (.tmp 36) (.tmp 41) 46 26 (.slice none 0 0) 24 rfl Tryd.underlying46 infoSl rfl (by decide) (by decide) u6 vs (A', pc.length, c - p) [.slice A' pc.length (c - p)] (fun _ => True) (fun k => some k ≠ u6.ownBlock) rfl rfl ?aP (fun k hk => ⟨trivial, hk⟩) (fun _ _ => trivial) HO2.out HBB.out HBB.out.size ?aL ?_; (case aP => rfl); (case aL => have := HN.out; have := HV.out.1; omega); intro v3 w4 ho hb3 hg hat; have HO3 := Lib.hid ho; have HB3 := Lib.hid hb3; clear ho hb3 hg hat))
            go_roundw
            case rel => exact ⟨t, f, vs ++ [(A', pc.length, c - p)], ps ++ [pc], rfl, Lib.hid ⟨HTL.out, by have := HP.out; have := HIN.out; omega⟩, Lib.hid (by rw [List.append_assoc]; exact HSS.out), Lib.hid (by have := HN.out; have := HIN.out; rw [List.length_append]; simp; omega), Lib.hid (HV.out.snoc A' (c - p) pc HCP.out HRP.out), HO3, HB3⟩
            case measure => have := HIN.out; have := HTL.out; simp [intOf]; omega
          · have q2 : decide ((4 : Int) ≤ (m : Int)) = false := decide_eq_false (by omega)
            have HO2 := Lib.hid (Kd.R_below HO.out HB2.out)
            have HBB := Lib.hid (below_step HB.out HB2.out)
            clear hci h5 h4
            go_wp2_with ((with_reducible refine gate_builtin (b := .append) (xs := #[.tmp 36, .tmp 41]) rfl ?_); at_builtin; refine Kd.R_append kSl (w0 := w) w.heap.size rfl (.tmp 36) (.tmp 41) 46 26 (.slice none 0 0) 24 rfl Tryd.underlying46 infoSl rfl (by decide) (by decide) u6 vs (A', pc.length, c - p) [.slice A' pc.length (c - p)] (fun _ => True) (fun k => some k ≠ u6.ownBlock) rfl rfl ?aP (fun k hk => ⟨trivial, hk⟩) (fun _ _ => trivial) HO2.out HBB.out HBB.out.size ?aL ?_; (case aP => rfl); (case aL => have := HN.out; have := HV.out.1; omega); intro v3 w4 ho hb3 hg hat; have HO3 := Lib.hid ho; have HB3 := Lib.hid hb3; clear ho hb3 hg hat)
            go_roundw
            case rel => exact ⟨t, f, vs ++ [(A', pc.length, c - p)], ps ++ [pc], rfl, Lib.hid ⟨HTL.out, by have := HP.out; have := HIN.out; omega⟩, Lib.hid (by rw [List.append_assoc]; exact HSS.out), Lib.hid (by have := HN.out; have := HIN.out; rw [List.length_append]; simp; omega), Lib.hid (HV.out.snoc A' (c - p) pc HCP.out HRP.out), HO3, HB3⟩
            case measure => have := HIN.out; have := HTL.out; simp [intOf]; omega
    · have q1 : decide ((m : Int) < (l.length : Int) - (p : Int)) = false := decide_eq_false (by omega)
      have HS2 := HS.out
      rw [cutF, if_neg hlt] at HS2
      by_cases hend : p < l.length
      · rw [if_pos hend] at HS2
        have q3 : decide ((p : Int) < (l.length : Int)) = true := decide_eq_true (by omega)
        have q4 : decide (p < l.length) = true := decide_eq_true hend
        obtain ⟨A', hcut, hA, hC⟩ := print_drop_of (P := Tryd.prog) (Value.int .u8) (0 : Int) 26 5 .i64 Tryd.underlying26 HI0.out HZ0.out A c l (p : Int) p0 p1 HC.out
        simp only [Int.toNat_natCast] at hcut hA hC
        have HR' := Kd.C_of_reads (h1 := fun _ => rfl) (hA w (Kd.reads_of_C (d := (0 : Int)) HR.out))
        obtain ⟨pc, hpc⟩ : ∃ pc, l.drop p = pc := ⟨_, rfl⟩
        rw [hpc] at hcut hC HR' HS2
        have HSS := Lib.hid HS2
        have HRP := Lib.hid HR'
        have HCP := Lib.hid hC
        clear hA hC HR' HS2 hpc hend
        go_wp2_with ((with_reducible refine gate_builtin (b := .append) (xs := #[.tmp 48, .tmp 52]) rfl ?_); at_builtin; refine Kd.R_append kSl (w0 := w) w.heap.size rfl (.tmp 48) (.tmp 52) 46 26 (.slice none 0 0) 24 rfl Tryd.underlying46 infoSl rfl (by decide) (by decide) u6 vs (A', pc.length, c - p) [.slice A' pc.length (c - p)] (fun _ => True) (fun k => some k ≠ u6.ownBlock) rfl rfl ?aP (fun k hk => ⟨trivial, hk⟩) (fun _ _ => trivial) HO.out HB.out HB.out.size ?aL ?_; (case aP => rfl); (case aL => have := HN.out; have := HV.out.1; omega); intro v3 w4 ho hb3 hg hat; have HO3 := Lib.hid ho; have HB3 := Lib.hid hb3; clear ho hb3 hg hat)
        go_ret2
        exact ⟨v3, _, rfl, HO3.out, by rw [← HSS.out]; exact HV.out.snoc A' (c - p) pc HCP.out HRP.out, HB3.out⟩
      · rw [if_neg hend] at HS2
        have q3 : decide ((p : Int) < (l.length : Int)) = false := decide_eq_false (by omega)
        have q4 : decide (p < l.length) = false := decide_eq_false hend
        rw [List.append_nil] at HS2
        have HSS := Lib.hid HS2
        clear HS2 hend
        go_wp2_with fail
        go_ret2
        exact ⟨u6, _, rfl, HO.out, by rw [← HSS.out]; exact HV.out, HB.out⟩
end Go.Proofs.YteoonhidjldnfaaDoor.Pr

namespace Go.Proofs.YteoonhidjldnfaaDoor.Pr
open Go.RowKit Go.Proofs.YteoonhidjldnfaaDoorW.PrintWords Go.Proofs.YteoonhidjldnfaaDoorW.PrintLast Go.Proofs.YteoonhidjldnfaaDoorW.PrintMore
attribute [local go_sem] max2_int min2_int max_two min_two max_three min_three max_four min_four   -- for this text's walks alone
set_option linter.unusedVariables false
set_option linter.unusedSimpArgs false
theorem eqA34 (d : Nat) (w : World) (x0 y0 : Int) (x1 y1 : Int) (x2 y2 : Int) (x3 y3 : Int) :
  (Op.equalIn (d + 2) 34 (.agg #[.int .i64 x0, .int .i64 x1, .int .i64 x2, .int .i64 x3]) (.agg #[.int .i64 y0, .int .i64 y1, .int .i64 y2, .int .i64 y3])).run Tryd.prog w = .ok (x0 == y0 && (x1 == y1 && (x2 == y2 && (x3 == y3)))) w := by
 refine eqA_of Tryd.underlying34 (by kernel_rfl) ?_
 refine eqf_cons (by rfl) (by go_simp; rfl) (by go_simp; rfl) (by go_simp) ?_
 refine eqf_cons (by rfl) (by go_simp; rfl) (by go_simp; rfl) (by go_simp) ?_
 refine eqf_cons (by rfl) (by go_simp; rfl) (by go_simp; rfl) (by go_simp) ?_
 exact eqf_last (by rfl) (by go_simp; rfl) (by go_simp; rfl) (by go_simp)
theorem eqA36 (d : Nat) (w : World) (x0 y0 : Int) (x1 y1 : Int) (x2 y2 : Int) (x3 y3 : Int) (x4 y4 : ByteArray) (x5 y5 : ByteArray) :
  (Op.equalIn (d + 3) 36 (.agg #[.int .i64 x0, .int .i64 x1, .int .i64 x2, .int .i64 x3, .string x4, .string x5]) (.agg #[.int .i64 y0, .int .i64 y1, .int .i64 y2, .int .i64 y3, .string y4, .string y5])).run Tryd.prog w = .ok ((x0 == y0 && (x1 == y1 && (x2 == y2 && (x3 == y3)))) && (x4.toList == y4.toList && (x5.toList == y5.toList))) w := by
 refine eqA_of Tryd.underlying36 (by kernel_rfl) ?_
 refine eqf_cons (by rfl) (by go_simp) (by go_simp) (eqA34 (d + 0) w _ _ _ _ _ _ _ _) ?_
 refine eqf_cons (by rfl) (by go_simp; rfl) (by go_simp; rfl) (by go_simp) ?_
 exact eqf_last (by rfl) (by go_simp; rfl) (by go_simp; rfl) (by go_simp)
end Go.Proofs.YteoonhidjldnfaaDoor.Pr

namespace Go.Proofs.YteoonhidjldnfaaDoor.Pr
open Go.RowKit Go.Proofs.YteoonhidjldnfaaDoorW.PrintWords Go.Proofs.YteoonhidjldnfaaDoorW.PrintLast Go.Proofs.YteoonhidjldnfaaDoorW.PrintMore
attribute [local go_sem] max2_int min2_int max_two min_two max_three min_three max_four min_four   -- for this text's walks alone
set_option linter.unusedVariables false
set_option linter.unusedSimpArgs false
attribute [local go_sem high] eqA36
def weld_Valid.j0 : Nat → Bool → Int → Int → Int → Int → ByteArray → ByteArray → Int → Int → Int → Int → Option (Bool)
 | 0, _, _, _, _, _, _, _, _, _, _, _ => none
 | k + 1, x36, x222000, x222001, x222002, x222003, x222004, x222005, x223000, x223001, x223002, x223003 => if x36 = true then (some false) else (if x223000 ≤ 6 then ((weld_short.f x222000 x222001 x222002 x222003 x222004 x222005).bind fun bt223 => (if bt223.2 = true then (if bt223.1.size ≤ 9223372036854775807 then ((weld_Of.f (bytesOf bt223.1)).bind fun bt228 => (some ((x222000 == bt228.1 && (x222001 == bt228.2.1 && (x222002 == bt228.2.2.1 && (x222003 == bt228.2.2.2.1)))) && (x222004.toList == bt228.2.2.2.2.1.toList && (x222005.toList == bt228.2.2.2.2.2.toList))))) else (none)) else (some false))) else (if x223001 ≥ 0 then (if x223001 ≤ x223000 then (if x223002 ≥ 0 then (if x223002 ≤ x223000 then (if (wrap64 (x223002 - x223001)) ≥ 0 then (if (wrap64 (x223001 - (wrap64 (x223002 - x223001)))) ≥ 0 then (if (wrap64 (x223000 - (wrap64 (4 * (wrap64 (x223002 - x223001)))))) ≥ (wrap64 (x223001 - (wrap64 (x223002 - x223001)))) then (if (wrap64 (x223000 - (wrap64 (4 * (wrap64 (x223002 - x223001)))))) ≤ (wrap64 (3 * (wrap64 (x223001 - (wrap64 (x223002 - x223001)))))) then (if x223003 ≥ 0 then (some (decide (x223003 ≤ x223001))) else (some false)) else (some false)) else (some false)) else (some false)) else (some false)) else (some false)) else (some false)) else (some false)) else (some false)))
def weld_Valid.f (k : Nat) (a0_0 : Int) (a0_1 : Int) (a0_2 : Int) (a0_3 : Int) (a0_4 : ByteArray) (a0_5 : ByteArray) : Option (Bool) := if a0_0 < 0 then (weld_Valid.j0 k true a0_0 a0_1 a0_2 a0_3 a0_4 a0_5 a0_0 a0_1 a0_2 a0_3) else (if a0_0 > 268435456 then (weld_Valid.j0 k true a0_0 a0_1 a0_2 a0_3 a0_4 a0_5 a0_0 a0_1 a0_2 a0_3) else (if (a0_4.size : Int) = (mn 3 a0_0) then (weld_Valid.j0 k ((a0_5.size : Int) != (mn 3 a0_0)) a0_0 a0_1 a0_2 a0_3 a0_4 a0_5 a0_0 a0_1 a0_2 a0_3) else (weld_Valid.j0 k true a0_0 a0_1 a0_2 a0_3 a0_4 a0_5 a0_0 a0_1 a0_2 a0_3)))
def weld_Valid.T6 : Bool × List (List Nat × List Nat) := (true, [([], []), ([0], [0]), ([1], [1]), ([1], [1]), ([3, 1], [1, 3]), ([4, 1, 1], [1, 4]), ([2, 5, 1], [1, 2, 5]), ([1, 6], [1, 6]), ([7, 5, 0, 1, 2, 3, 4, 5, 6, 7], [7])])
def weld_Valid.B6 : List Nat := [0, 1, 3, 3, 11, 27, 63, 127, 255]
theorem weld_Valid.tab6 : rtab .any (opsOf Tryd.f43 6) = weld_Valid.T6 := by kernel_rfl
theorem weld_Valid.bits6 : waitsOk weld_Valid.T6.2 weld_Valid.B6 = true := by kernel_rfl
set_option maxHeartbeats 8000000 in
set_option maxRecDepth 100000 in
theorem weld_Valid.calls (k : Nat) (a0_0 : Int) (a0_1 : Int) (a0_2 : Int) (a0_3 : Int) (a0_4 : ByteArray) (a0_5 : ByteArray) (r : Bool) (w : World) (hG : Glob.Globs w) (h : weld_Valid.f k a0_0 a0_1 a0_2 a0_3 a0_4 a0_5 = some r) :
  Calls Tryd.prog 43 #[.agg #[.int .i64 a0_0, .int .i64 a0_1, .int .i64 a0_2, .int .i64 a0_3, .string a0_4, .string a0_5]] w fun e w' => e = .returned (.bool r) ∧ Below w.heap.size w w' := by
 have hu36 := Tryd.underlying36
 have hu34 := Tryd.underlying34
 have HG := Aside0.mk hG; clear hG
 have HB := Aside0.mk (Below.refl w.heap.size w)
 have H : (if a0_0 < 0 then (weld_Valid.j0 k true a0_0 a0_1 a0_2 a0_3 a0_4 a0_5 a0_0 a0_1 a0_2 a0_3) else (if a0_0 > 268435456 then (weld_Valid.j0 k true a0_0 a0_1 a0_2 a0_3 a0_4 a0_5 a0_0 a0_1 a0_2 a0_3) else (if (a0_4.size : Int) = (mn 3 a0_0) then (weld_Valid.j0 k ((a0_5.size : Int) != (mn 3 a0_0)) a0_0 a0_1 a0_2 a0_3 a0_4 a0_5 a0_0 a0_1 a0_2 a0_3) else (weld_Valid.j0 k true a0_0 a0_1 a0_2 a0_3 a0_4 a0_5 a0_0 a0_1 a0_2 a0_3)))) = some r := h
 clear h; have HC2 := Aside0.mk H; clear H
 go_enter Tryd.func43, Tryd.ntmps43
 go_upto_region 2 with (first | ((with_reducible refine gate_dst (N := 1) rfl ?_); (try (refine gate_guard (by rfl) ?_; dsimp only)); refine box_event ?hg (N := 1) ?hd (cs := #[.int .i64 a0_0, .int .i64 a0_1, .int .i64 a0_2, .int .i64 a0_3, .string a0_4, .string a0_5]) (t := 36) ?hr ?_; (case hd => rfl); (case hg => rfl); (case hr => first | (go_simp; done) | (go_simp; rfl)); intro gb221 hg w3 hbox hb; have n0_ := Aside0.mk (below_step (bl HB.out) hb); have n1_ := Aside0.mk (hbox); have n2_ := Aside0.mk ((by rw [hg]; exact (below_size (bl HB.out)) : w.heap.size ≤ gb221)); have n3_ := Aside0.mk ((by rw [hg]; exact (below_size (bl HB.out)) : w.heap.size ≤ gb221)); clear HB; have HB := n0_; have BK221 := n1_; have GW221 := n2_; have GE221 := n3_; clear n0_ n1_ n2_ n3_; clear hb hbox hg; obtain ⟨hcz4_0, hcz4_1, hcz4_2, hcz4_3, hcz4_4, hcz4_5⟩ := cl6 BK221.out; obtain ⟨hfz4_0, hfz4_1, hfz4_2, hfz4_3, hfz4_4, hfz4_5⟩ := fl6 BK221.out) | ((with_reducible refine gate_dst (N := 3) rfl ?_); (try (refine gate_guard (by rfl) ?_; dsimp only)); refine box_event ?hg (N := 3) ?hd (cs := #[.int .i64 0, .int .i64 0, .int .i64 0, .int .i64 0]) (t := 34) ?hr ?_; (case hd => rfl); (case hg => rfl); (case hr => first | (go_simp; done) | (go_simp; rfl)); intro gb222 hg w5 hbox hb; have n0_ := Aside0.mk (blk_below (pl BK221.out) hb); have n1_ := Aside0.mk (below_step (by repeat (first | (with_reducible first | exact HB.out | apply below_alloc | apply pw_below_drewN | apply below_drew1 | refine below_set ?_ GE221.out) | exact HB.out)) hb); have n2_ := Aside0.mk (hbox); have n3_ := Aside0.mk ((by rw [hg]; exact (below_size (by repeat (first | (with_reducible first | exact HB.out | apply below_alloc | apply pw_below_drewN | apply below_drew1 | refine below_set ?_ GE221.out) | exact HB.out))) : w.heap.size ≤ gb222)); have n4_ := Aside0.mk ((by rw [hg]; exact (below_size (by repeat (first | (with_reducible first | exact HB.out | apply below_alloc | apply pw_below_drewN | apply below_drew1 | refine below_set ?_ GE221.out) | exact HB.out))) : w.heap.size ≤ gb222)); have n5_ := Aside0.mk ((by rw [hg]; exact Nat.ne_of_lt (blk_lt (pl BK221.out)) : gb221 ≠ gb222)); have n6_ := Aside0.mk ((by rw [hg]; exact Nat.ne_of_gt (blk_lt (pl BK221.out)) : gb222 ≠ gb221)); clear BK221; clear HB; have BK221 := n0_; have HB := n1_; have BK222 := n2_; have GW222 := n3_; have GE222 := n4_; have NB221_222 := n5_; have NB222_221 := n6_; clear n0_ n1_ n2_ n3_ n4_ n5_ n6_; clear hb hbox hg; have hnb6 := NB222_221.out; have hnc6 := NB221_222.out; obtain ⟨hcz7_0, hcz7_1, hcz7_2, hcz7_3⟩ := cl4 BK222.out; obtain ⟨hfz7_0, hfz7_1, hfz7_2, hfz7_3⟩ := fl4 BK222.out))
 (try simp only [Act.put, List.setIfInBounds_toArray, List.set_cons_zero, List.set_cons_succ])
 go_cut [36] (fun v36 wc => ∃ (kq : Nat) (x36_1 : Bool), v36 = .bool x36_1 ∧ Aside0 (weld_Valid.j0 kq x36_1 a0_0 a0_1 a0_2 a0_3 a0_4 a0_5 a0_0 a0_1 a0_2 a0_3 = some r) ∧ Aside0 (kq ≤ k) ∧ Aside0 (wc.heap[gb221]? = some (.cells #[.int .i64 a0_0, .int .i64 a0_1, .int .i64 a0_2, .int .i64 a0_3, .string a0_4, .string a0_5] 36 (0, 0))) ∧ Aside0 (wc.heap[gb222]? = some (.cells #[.int .i64 a0_0, .int .i64 a0_1, .int .i64 a0_2, .int .i64 a0_3] 34 (0, 0))) ∧ Aside0 (Below w.heap.size w wc))
 case first =>
  have H := HC2.out; clear HC2
  by_cases c8 : a0_0 < 0
  ·rw [if_pos c8] at H
   have c8b0 : decide (a0_0 < 0) = true := decide_eq_true c8
   clear c8
   (first | rw [c8b0] | (simp only [i64_w, i32_w]; rw [c8b0]) | skip)
   have H' := Aside0.mk H; clear H; have hnb9 := NB222_221.out; have hnc9 := NB221_222.out; obtain ⟨hcz10_0, hcz10_1, hcz10_2, hcz10_3⟩ := cl4 BK222.out; obtain ⟨hfz10_0, hfz10_1, hfz10_2, hfz10_3⟩ := fl4 BK222.out
   go_wp2
   go_meet
   case rel => exact ⟨_, (true), (by first | rfl | (simp; done) | (simp [*]; done)), H', ⟨by first | omega | exact Nat.le_refl _⟩, ⟨by refine pl ?_; refine blk_far ?_ NB221_222.out _; refine pl ?_; refine blk_far ?_ NB221_222.out _; refine pl ?_; refine blk_far ?_ NB221_222.out _; refine pl ?_; refine blk_far ?_ NB221_222.out _; refine pl ?_; exact BK221.out⟩, ⟨by refine pl ?_; refine blk_put (cs := #[.int .i64 a0_0, .int .i64 a0_1, .int .i64 a0_2, .int .i64 0]) ?_ 3 _ rfl; refine pl ?_; refine blk_put (cs := #[.int .i64 a0_0, .int .i64 a0_1, .int .i64 0, .int .i64 0]) ?_ 2 _ rfl; refine pl ?_; refine blk_put (cs := #[.int .i64 a0_0, .int .i64 0, .int .i64 0, .int .i64 0]) ?_ 1 _ rfl; refine pl ?_; refine blk_put (cs := #[.int .i64 0, .int .i64 0, .int .i64 0, .int .i64 0]) ?_ 0 _ rfl; refine pl ?_; exact BK222.out⟩, ⟨by repeat (first | (with_reducible first | exact HB.out | apply below_alloc | apply pw_below_drewN | apply below_drew1 | refine below_set ?_ GE221.out | refine below_set ?_ GE222.out) | exact HB.out)⟩⟩
  ·rw [if_neg c8] at H
   have c8b0 : decide (a0_0 < 0) = false := decide_eq_false c8
   clear c8
   (first | rw [c8b0] | (simp only [i64_w, i32_w]; rw [c8b0]) | skip)
   by_cases c11 : a0_0 > 268435456
   ·rw [if_pos c11] at H
    have c11b0 : decide (268435456 < a0_0) = true := decide_eq_true c11
    clear c11; have H' := Aside0.mk H; clear H; have hnb12 := NB222_221.out; have hnc12 := NB221_222.out; obtain ⟨hcz13_0, hcz13_1, hcz13_2, hcz13_3⟩ := cl4 BK222.out; obtain ⟨hfz13_0, hfz13_1, hfz13_2, hfz13_3⟩ := fl4 BK222.out
    go_wp2
    go_meet
    case rel => exact ⟨_, (true), (by first | rfl | (simp; done) | (simp [*]; done)), H', ⟨by first | omega | exact Nat.le_refl _⟩, ⟨by refine pl ?_; refine blk_far ?_ NB221_222.out _; refine pl ?_; refine blk_far ?_ NB221_222.out _; refine pl ?_; refine blk_far ?_ NB221_222.out _; refine pl ?_; refine blk_far ?_ NB221_222.out _; refine pl ?_; exact BK221.out⟩, ⟨by refine pl ?_; refine blk_put (cs := #[.int .i64 a0_0, .int .i64 a0_1, .int .i64 a0_2, .int .i64 0]) ?_ 3 _ rfl; refine pl ?_; refine blk_put (cs := #[.int .i64 a0_0, .int .i64 a0_1, .int .i64 0, .int .i64 0]) ?_ 2 _ rfl; refine pl ?_; refine blk_put (cs := #[.int .i64 a0_0, .int .i64 0, .int .i64 0, .int .i64 0]) ?_ 1 _ rfl; refine pl ?_; refine blk_put (cs := #[.int .i64 0, .int .i64 0, .int .i64 0, .int .i64 0]) ?_ 0 _ rfl; refine pl ?_; exact BK222.out⟩, ⟨by repeat (first | (with_reducible first | exact HB.out | apply below_alloc | apply pw_below_drewN | apply below_drew1 | refine below_set ?_ GE221.out | refine below_set ?_ GE222.out) | exact HB.out)⟩⟩
   ·rw [if_neg c11] at H
    have c11b0 : decide (268435456 < a0_0) = false := decide_eq_false c11
    clear c11
    obtain ⟨ji14, hji14⟩ : ∃ j_ : Int, (mn 3 a0_0) = j_ := ⟨_, rfl⟩
    replace H : (if (a0_4.size : Int) = (ji14) then (weld_Valid.j0 k ((a0_5.size : Int) != (ji14)) a0_0 a0_1 a0_2 a0_3 a0_4 a0_5 a0_0 a0_1 a0_2 a0_3) else (weld_Valid.j0 k true a0_0 a0_1 a0_2 a0_3 a0_4 a0_5 a0_0 a0_1 a0_2 a0_3)) = some r := by first | (rw [hji14] at H; exact H) | (simp only [hji14] at H ⊢; exact H)
    (try (have hji14h : ji14 ≤ 3 := by (rw [← hji14]; unfold mn; (repeat' split) <;> omega)))
    (try (have hji14g : ji14 ≤ 64 := by omega))
    have hji14_ : (if a0_0 < 3 then a0_0 else 3) = ji14 := hji14
    by_cases c15 : (a0_4.size : Int) = (ji14)
    ·rw [if_pos c15] at H
     have c15b0 : ((a0_4.size : Int) == (ji14)) = true := beq_iff_eq.mpr c15
     have c15b1 : ((a0_4.size : Int) != (ji14)) = false := bne_eq_false_iff_eq.mpr c15
     clear c15; have H' := Aside0.mk H; clear H; have hnb17 := NB222_221.out; have hnc17 := NB221_222.out; obtain ⟨hcz18_0, hcz18_1, hcz18_2, hcz18_3⟩ := cl4 BK222.out; obtain ⟨hfz18_0, hfz18_1, hfz18_2, hfz18_3⟩ := fl4 BK222.out; obtain ⟨hcz19_0, hcz19_1, hcz19_2, hcz19_3, hcz19_4, hcz19_5⟩ := cl6 BK221.out; obtain ⟨hfz19_0, hfz19_1, hfz19_2, hfz19_3, hfz19_4, hfz19_5⟩ := fl6 BK221.out
     go_wp2
     go_meet
     case rel => exact ⟨_, (((a0_5.size : Int) != (ji14))), (by first | rfl | (simp; done) | (simp only [← hji14] <;> (first | rfl | simp)) | (simp [*]; done)), H', ⟨by first | omega | exact Nat.le_refl _⟩, ⟨by refine pl ?_; refine blk_far ?_ NB221_222.out _; refine pl ?_; refine blk_far ?_ NB221_222.out _; refine pl ?_; refine blk_far ?_ NB221_222.out _; refine pl ?_; refine blk_far ?_ NB221_222.out _; refine pl ?_; exact BK221.out⟩, ⟨by refine pl ?_; refine blk_put (cs := #[.int .i64 a0_0, .int .i64 a0_1, .int .i64 a0_2, .int .i64 0]) ?_ 3 _ rfl; refine pl ?_; refine blk_put (cs := #[.int .i64 a0_0, .int .i64 a0_1, .int .i64 0, .int .i64 0]) ?_ 2 _ rfl; refine pl ?_; refine blk_put (cs := #[.int .i64 a0_0, .int .i64 0, .int .i64 0, .int .i64 0]) ?_ 1 _ rfl; refine pl ?_; refine blk_put (cs := #[.int .i64 0, .int .i64 0, .int .i64 0, .int .i64 0]) ?_ 0 _ rfl; refine pl ?_; exact BK222.out⟩, ⟨by repeat (first | (with_reducible first | exact HB.out | apply below_alloc | apply pw_below_drewN | apply below_drew1 | refine below_set ?_ GE221.out | refine below_set ?_ GE222.out) | exact HB.out)⟩⟩
    ·rw [if_neg c15] at H
     have c15b0 : ((a0_4.size : Int) == (ji14)) = false := beq_eq_false_iff_ne.mpr c15
     have c15b1 : ((a0_4.size : Int) != (ji14)) = true := bne_iff_ne.mpr c15
     have H' := Aside0.mk H; clear H; have hnb20 := NB222_221.out; have hnc20 := NB221_222.out; obtain ⟨hcz21_0, hcz21_1, hcz21_2, hcz21_3⟩ := cl4 BK222.out; obtain ⟨hfz21_0, hfz21_1, hfz21_2, hfz21_3⟩ := fl4 BK222.out; obtain ⟨hcz22_0, hcz22_1, hcz22_2, hcz22_3, hcz22_4, hcz22_5⟩ := cl6 BK221.out; obtain ⟨hfz22_0, hfz22_1, hfz22_2, hfz22_3, hfz22_4, hfz22_5⟩ := fl6 BK221.out
     go_wp2
     go_meet
     case rel => exact ⟨_, (true), (by first | rfl | (simp; done) | (simp [*]; done)), H', ⟨by first | omega | exact Nat.le_refl _⟩, ⟨by refine pl ?_; refine blk_far ?_ NB221_222.out _; refine pl ?_; refine blk_far ?_ NB221_222.out _; refine pl ?_; refine blk_far ?_ NB221_222.out _; refine pl ?_; refine blk_far ?_ NB221_222.out _; refine pl ?_; exact BK221.out⟩, ⟨by refine pl ?_; refine blk_put (cs := #[.int .i64 a0_0, .int .i64 a0_1, .int .i64 a0_2, .int .i64 0]) ?_ 3 _ rfl; refine pl ?_; refine blk_put (cs := #[.int .i64 a0_0, .int .i64 a0_1, .int .i64 0, .int .i64 0]) ?_ 2 _ rfl; refine pl ?_; refine blk_put (cs := #[.int .i64 a0_0, .int .i64 0, .int .i64 0, .int .i64 0]) ?_ 1 _ rfl; refine pl ?_; refine blk_put (cs := #[.int .i64 0, .int .i64 0, .int .i64 0, .int .i64 0]) ?_ 0 _ rfl; refine pl ?_; exact BK222.out⟩, ⟨by repeat (first | (with_reducible first | exact HB.out | apply below_alloc | apply pw_below_drewN | apply below_drew1 | refine below_set ?_ GE221.out | refine below_set ?_ GE222.out) | exact HB.out)⟩⟩
 case rest =>
  clear HC2; (try clear c1); (try clear c2); (try clear p2); (try clear c4); (try clear c6); (try clear c8); (try clear c8b0); (try clear c9); (try clear c11); (try clear c11b0); (try clear c12); (try clear c15); (try clear c15b0); (try clear c15b1); (try clear c16); (try clear c16b0); (try clear c17); (try clear c20); (try clear hcz10_0); (try clear hcz10_1); (try clear hcz10_2); (try clear hcz10_3); (try clear hcz13_0); (try clear hcz13_1); (try clear hcz13_2); (try clear hcz13_3); (try clear hcz18_0); (try clear hcz18_1); (try clear hcz18_2); (try clear hcz18_3); (try clear hcz19_0); (try clear hcz19_1); (try clear hcz19_2); (try clear hcz19_3); (try clear hcz19_4); (try clear hcz19_5); (try clear hcz21_0); (try clear hcz21_1); (try clear hcz21_2); (try clear hcz21_3); (try clear hcz22_0); (try clear hcz22_1); (try clear hcz22_2); (try clear hcz22_3); (try clear hcz22_4); (try clear hcz22_5); (try clear hcz4_0); (try clear hcz4_1); (try clear hcz4_2); (try clear hcz4_3); (try clear hcz4_4); (try clear hcz4_5); (try clear hcz7_0); (try clear hcz7_1); (try clear hcz7_2); (try clear hcz7_3); (try clear hfz10_0); (try clear hfz10_1); (try clear hfz10_2); (try clear hfz10_3); (try clear hfz13_0); (try clear hfz13_1); (try clear hfz13_2); (try clear hfz13_3); (try clear hfz18_0); (try clear hfz18_1); (try clear hfz18_2); (try clear hfz18_3); (try clear hfz19_0); (try clear hfz19_1); (try clear hfz19_2); (try clear hfz19_3); (try clear hfz19_4); (try clear hfz19_5); (try clear hfz21_0); (try clear hfz21_1); (try clear hfz21_2); (try clear hfz21_3); (try clear hfz22_0); (try clear hfz22_1); (try clear hfz22_2); (try clear hfz22_3); (try clear hfz22_4); (try clear hfz22_5); (try clear hfz4_0); (try clear hfz4_1); (try clear hfz4_2); (try clear hfz4_3); (try clear hfz4_4); (try clear hfz4_5); (try clear hfz7_0); (try clear hfz7_1); (try clear hfz7_2); (try clear hfz7_3)
  obtain ⟨kq, x36_1, rfl, HA, HJ1, BK221, BK222, HB⟩ := hcut
  cases kq with
  | zero => exact absurd HA.out (by simp [weld_Valid.j0])
  | succ kj1 =>
   have H := HA.out; clear HA
   simp only [weld_Valid.j0] at H
   by_cases c23 : x36_1 = true
   ·subst c23
    have H1 := H; rw [if_pos rfl] at H1
    clear H; have H := H1; clear H1
    obtain rfl := Option.some.inj H
    go_wp2
    go_ret
    exact ⟨by first | rfl | (simp [errW_none, errW_some] <;> rfl) | (simp [*, errW_none, errW_some] <;> rfl), by repeat (first | (with_reducible first | exact HB.out | apply below_alloc | apply pw_below_drewN | apply below_drew1 | refine below_set ?_ GE221.out | refine below_set ?_ GE222.out) | exact HB.out)⟩
   ·replace c23 := Bool.eq_false_iff.mpr c23
    subst c23
    have H1 := H; rw [if_neg (show ¬ (false = true) by decide)] at H1
    clear H; have H := H1; clear H1
    by_cases c24 : a0_0 ≤ 6
    ·rw [if_pos c24] at H
     have c24b0 : decide (a0_0 ≤ 6) = true := decide_eq_true c24
     clear c24
     replace H := Option.bind_eq_some_iff.mp H
     obtain ⟨⟨t223, t224⟩, A250, H⟩ := H
     have A25 := Aside0.mk A250; clear A250
     by_cases c26 : t224 = true
     ·subst c26
      have H1 := H; rw [if_pos rfl] at H1
      clear H; have H := H1; clear H1
      by_cases c27 : t223.size ≤ 9223372036854775807
      ·rw [if_pos c27] at H
       have c27b0 := eq_true c27
       have c27b1 : decide (t223.size ≤ 9223372036854775807) = true := decide_eq_true c27
       try have c27b2 : (9223372036854775807 < t223.size) = False := eq_false (Nat.not_lt.2 c27)
       clear c27
       obtain ⟨y225, hy225⟩ : ∃ y_ : List Int, y_ = (bytesOf t223) := ⟨_, rfl⟩
       replace H : ((weld_Of.f y225).bind fun bt228 => (some ((a0_0 == bt228.1 && (a0_1 == bt228.2.1 && (a0_2 == bt228.2.2.1 && (a0_3 == bt228.2.2.2.1)))) && (a0_4.toList == bt228.2.2.2.2.1.toList && (a0_5.toList == bt228.2.2.2.2.2.toList))))) = some r := by first | (rw [hy225]; with_reducible exact H) | (have H2_ := (Option.bind_some _ _).symm.trans H; rw [hy225]; with_reducible exact H2_) | (have H2_ := (Option.bind_some _ _).symm.trans H; with_reducible exact H2_) | with_reducible exact H | (rw [hy225]; exact H) | exact H
       have Ny225 := Aside0.mk hy225; clear hy225
       replace H := Option.bind_eq_some_iff.mp H
       obtain ⟨⟨t228, t229, t230, t231, t232, t233⟩, A280, H⟩ := H
       have A28 := Aside0.mk A280; clear A280
       obtain rfl := Option.some.inj H
       have hnb29 := NB222_221.out; have hnc29 := NB221_222.out; obtain ⟨hcz30_0, hcz30_1, hcz30_2, hcz30_3⟩ := cl4 BK222.out; obtain ⟨hfz30_0, hfz30_1, hfz30_2, hfz30_3⟩ := fl4 BK222.out; obtain ⟨hcz31_0, hcz31_1, hcz31_2, hcz31_3, hcz31_4, hcz31_5⟩ := cl6 BK221.out; obtain ⟨hfz31_0, hfz31_1, hfz31_2, hfz31_3, hfz31_4, hfz31_5⟩ := fl6 BK221.out
       try go_wp2_with (first | ((with_reducible refine gate_callee (f := 53) rfl ?_); refine goesL_ (some 42) rfl rfl Tryd.func53 (by kernel_rfl) rfl #[.agg #[.int .i64 a0_0, .int .i64 a0_1, .int .i64 a0_2, .int .i64 a0_3, .string a0_4, .string a0_5]] rfl (by (try simp only [List.map_toArray, List.map_cons, List.map_nil]); first | done | rfl | (simp only [List.length_drop, List.length_take]; rfl)) ?_; (with_reducible refine (weld_short.calls a0_0 a0_1 a0_2 a0_3 a0_4 a0_5 t223 true _ A25.out).mono ?_); rintro e w32 ⟨rfl, hb⟩; refine ⟨_, rfl, ?_⟩; have n0_ := Aside0.mk (blk_below (pl BK221.out) hb); have n1_ := Aside0.mk (blk_below (pl BK222.out) hb); have n2_ := Aside0.mk (below_step (by repeat (first | (with_reducible first | exact HB.out | apply below_alloc | apply pw_below_drewN | apply below_drew1 | refine below_set ?_ GE221.out | refine below_set ?_ GE222.out) | exact HB.out)) hb); clear BK221; clear BK222; clear HB; have BK221 := n0_; have BK222 := n1_; have HB := n2_; clear n0_ n1_ n2_; (try clear hb); (try clear hb2); (try clear hk); (try clear hi)))
       have n0_ := Aside0.mk (blk_drew BK221.out)
       have n1_ := Aside0.mk (blk_drew BK222.out)
       have n2_ := Aside0.mk (below_drew1 HB.out)
       clear BK221; clear BK222; clear HB; have BK221 := n0_; have BK222 := n1_; have HB := n2_; clear n0_ n1_ n2_
       refine start_ (n := 9) (S := fun w' => w'.cell? ⟨gb221, 0, none⟩ = some (.int .i64 a0_0) ∧ w'.cell? ⟨gb221, 1, none⟩ = some (.int .i64 a0_1) ∧ w'.cell? ⟨gb221, 2, none⟩ = some (.int .i64 a0_2) ∧ w'.cell? ⟨gb221, 3, none⟩ = some (.int .i64 a0_3) ∧ w'.cell? ⟨gb221, 4, none⟩ = some (.string a0_4) ∧ w'.cell? ⟨gb221, 5, none⟩ = some (.string a0_5)) (ds := []) #[false, false, false, false, false, false, false, false, false] (by kernel_rfl) rfl rfl ⟨(blk_cell BK221.out 0).trans rfl, (blk_cell BK221.out 1).trans rfl, (blk_cell BK221.out 2).trans rfl, (blk_cell BK221.out 3).trans rfl, (blk_cell BK221.out 4).trans rfl, (blk_cell BK221.out 5).trans rfl⟩ (fun hHeld => ?_); refine with_tabW weld_Valid.tab6 weld_Valid.bits6 (fun HT_ HW_ => ?_)
       generalize w32.drew = w33 at BK221 BK222 HB hHeld ⊢
       refine pure_ (i := 0) (N := some 45) (v := ?_) (a' := ?_) #[true, false, false, false, false, false, false, false, false] rfl rfl (any_of HT_.out (by kernel_rfl)) (fun _ _ _ h => h) (Or.inl ⟨by rfl, ?_⟩) ?_ ?_
       rotate_left
       ·intro w'
        go_simp
        with_reducible rfl
       rotate_left
       ·simp only [Act.put, List.setIfInBounds_toArray, List.set_cons_zero, List.set_cons_succ, i64_w, i32_w]
        rfl
       refine pure_ (i := 1) (N := some 46) (v := ?_) (a' := ?_) #[true, true, false, false, false, false, false, false, false] rfl rfl (any_of HT_.out (by kernel_rfl)) (fun _ _ _ h => h) (Or.inl ⟨by rfl, ?_⟩) ?_ ?_
       rotate_left
       ·intro w'
        go_simp
        with_reducible rfl
       rotate_left
       ·simp only [Act.put, List.setIfInBounds_toArray, List.set_cons_zero, List.set_cons_succ, i64_w, i32_w]
        rfl
       refine pure_ (i := 3) (N := some 48) (v := ?_) (a' := ?_) #[true, true, false, true, false, false, false, false, false] rfl rfl (any_of HT_.out (by kernel_rfl)) (fun _ _ _ h => h) (Or.inl ⟨by rfl, ?_⟩) ?_ ?_
       rotate_left
       ·intro w'
        go_simp
        with_reducible rfl
       rotate_left
       ·simp only [Act.put, List.setIfInBounds_toArray, List.set_cons_zero, List.set_cons_succ, i64_w, i32_w]
        rfl
       refine take_ (i := 2) (N := some 47) (v := ?_) (a' := ?_) #[true, true, true, true, false, false, false, false, false] rfl rfl (take_ofW HT_.out HW_.out (by kernel_rfl)) (fun _ _ _ h => h) (Or.inl ⟨by rfl, ?_⟩) hHeld ?_ ?_
       rotate_left
       ·rintro w' ⟨s0, s1, s2, s3, s4, s5⟩
        go_simp
        with_reducible rfl
       rotate_left
       ·simp only [Act.put, List.setIfInBounds_toArray, List.set_cons_zero, List.set_cons_succ, i64_w, i32_w]
        rfl
       refine one_ (i := 4) (N := some 49) #[true, true, true, true, true, false, false, false, false] rfl rfl (one_of HT_.out (by kernel_rfl)) (by decide) (fun K hK => ?_)
       refine Kd.V_bytes_step _ 5 ?hg (N := 49) ?hd (s := t223) (ok := fun k_ => w33.heap.size ≤ k_) rfl ?hx Tryd.underlying9 Tryd.underlying26 Tryd.underlying5 (Nat.le_refl _) (Below.refl _ _) (Nat.le_refl _) (of_decide_eq_true (by first | (with_reducible assumption) | assumption)) ?_; (case hd => rfl); (case hg => rfl); (case hx => first | rfl | (go_simp; done) | (go_simp; rfl))
       intro v226 w34 ho35 hb hg_ hnew_
       clear hg_ hnew_
       (first | rw [← Ny225.out] at ho35 | (simp only [Int.reduceToNat] at ho35; rw [← Ny225.out] at ho35))
       have n0_ := Aside0.mk (Kd.V_lower (Kd.V_mono (ok' := fun k_ => k_ ≠ gb221 ∧ k_ ≠ gb222) ho35 (fun k_ hk_ => ⟨(Kd.freshB (g := gb221) (o := .cells #[.int .i64 a0_0, .int .i64 a0_1, .int .i64 a0_2, .int .i64 a0_3, .string a0_4, .string a0_5] 36 (0, 0)) (pl BK221.out) k_ hk_), (Kd.freshB (g := gb222) (o := .cells #[.int .i64 a0_0, .int .i64 a0_1, .int .i64 a0_2, .int .i64 a0_3] 34 (0, 0)) (pl BK222.out) k_ hk_)⟩)) (below_size (by repeat (first | (with_reducible first | exact HB.out | apply below_alloc | apply pw_below_drewN | apply below_drew1 | refine below_set ?_ GE221.out | refine below_set ?_ GE222.out) | exact HB.out))))
       have n1_ := Aside0.mk (blk_below (pl BK221.out) hb)
       have n2_ := Aside0.mk (blk_below (pl BK222.out) hb)
       have n3_ := Aside0.mk (below_step (by repeat (first | (with_reducible first | exact HB.out | apply below_alloc | apply pw_below_drewN | apply below_drew1 | refine below_set ?_ GE221.out | refine below_set ?_ GE222.out) | exact HB.out)) hb)
       clear BK221; clear BK222; clear HB; have HO227 := n0_; have BK221 := n1_; have BK222 := n2_; have HB := n3_; clear n0_ n1_ n2_ n3_; clear hb ho35
       obtain ⟨Ao36, co36, eo36⟩ := Kd.V_slice HO227.out
       (first | subst eo36 | (injection eo36 with f1_ f2_ f3_; have f4_ := f1_.symm; have f5_ := f3_.symm; clear f1_ f2_ f3_; subst f4_; subst f5_))
       refine hK.out _ _ ⟨(blk_cell BK221.out 0).trans rfl, (blk_cell BK221.out 1).trans rfl, (blk_cell BK221.out 2).trans rfl, (blk_cell BK221.out 3).trans rfl, (blk_cell BK221.out 4).trans rfl, (blk_cell BK221.out 5).trans rfl⟩ (fun hHeld => ?_)
       clear hK K
       refine norm_ (a' := ?_) ?_ ?_
       rotate_left
       ·show Act.put _ (some 49) _ = _
        simp only [Act.put, List.setIfInBounds_toArray, List.set_cons_zero, List.set_cons_succ, i64_w, i32_w]
        rfl
       refine one_ (i := 5) (N := some 50) #[true, true, true, true, true, true, false, false, false] rfl rfl (one_of HT_.out (by kernel_rfl)) (by decide) (fun K hK => ?_)
       refine goes_ Tryd.func20 (by kernel_rfl) rfl #[.slice Ao36 y225.length co36] (by rfl) rfl rfl (by (try simp only [List.map_toArray, List.map_cons, List.map_nil]); first | done | rfl | (simp only [List.length_drop, List.length_take]; rfl)) ?_
       with_reducible refine (weld_Of.calls _ _ y225 t228 t229 t230 t231 t232 t233 _ ?side1 ?side2 ?side3 A28.out).mono ?_
       (case side1 => first | (with_reducible exact HG.out) | exact Glob.Globs_below HG.out (by repeat (first | (with_reducible first | exact HB.out | apply below_alloc | apply pw_below_drewN | apply below_drew1 | refine below_set ?_ GE221.out | refine below_set ?_ GE222.out) | exact HB.out)))
       (case side2 => repeat (first | exact (Kd.V_reads' HO227.out).2.2 | (with_reducible refine Kd.C_alloc ?_ _) | (with_reducible refine Kd.C_drewN ?_ _) | (with_reducible refine Kd.C_drew ?_)))
       (case side3 => exact (Kd.V_reads' HO227.out).2.1)
       rintro e w37 ⟨rfl, hb⟩
       refine ⟨_, rfl, ?_⟩
       have n0_ := Aside0.mk (Kd.V_below (by (with_reducible repeat (first | apply Kd.V_alloc | apply Kd.V_drewN | apply Kd.V_drew)); exact HO227.out) hb)
       have n1_ := Aside0.mk (blk_below (pl BK221.out) hb)
       have n2_ := Aside0.mk (blk_below (pl BK222.out) hb)
       have n3_ := Aside0.mk (below_step (by repeat (first | (with_reducible first | exact HB.out | apply below_alloc | apply pw_below_drewN | apply below_drew1 | refine below_set ?_ GE221.out | refine below_set ?_ GE222.out) | exact HB.out)) hb)
       clear HO227; clear BK221; clear BK222; clear HB; have HO227 := n0_; have BK221 := n1_; have BK222 := n2_; have HB := n3_; clear n0_ n1_ n2_ n3_
       (try clear hb)
       (try clear hb2)
       (try clear hk)
       (try clear hi)
       refine hK.out _ _ ⟨(blk_cell BK221.out 0).trans rfl, (blk_cell BK221.out 1).trans rfl, (blk_cell BK221.out 2).trans rfl, (blk_cell BK221.out 3).trans rfl, (blk_cell BK221.out 4).trans rfl, (blk_cell BK221.out 5).trans rfl⟩ (fun hHeld => ?_)
       clear hK K
       refine norm_ (a' := ?_) ?_ ?_
       rotate_left
       ·show Act.put _ (some 50) _ = _
        simp only [Act.put, List.setIfInBounds_toArray, List.set_cons_zero, List.set_cons_succ, i64_w, i32_w]
        rfl
       refine pure_ (i := 6) (N := some 51) (v := ?_) (a' := ?_) #[true, true, true, true, true, true, true, false, false] rfl rfl (any_of HT_.out (by kernel_rfl)) (fun _ _ _ h => h) (Or.inl ⟨by rfl, ?_⟩) ?_ ?_
       rotate_left
       ·intro w'
        go_simp
        with_reducible rfl
       rotate_left
       ·simp only [Act.put, List.setIfInBounds_toArray, List.set_cons_zero, List.set_cons_succ, i64_w, i32_w]
        rfl
       refine pure_ (i := 7) (N := some 52) (v := ?_) (a' := ?_) #[true, true, true, true, true, true, true, true, false] rfl rfl (any_of HT_.out (by kernel_rfl)) (fun _ _ _ h => h) (Or.inl ⟨by rfl, ?_⟩) ?_ ?_
       rotate_left
       ·intro w'
        go_simp
        with_reducible rfl
       rotate_left
       ·simp only [Act.put, List.setIfInBounds_toArray, List.set_cons_zero, List.set_cons_succ, i64_w, i32_w]
        rfl
       refine pure_ (i := 8) (N := some 2) (v := ?_) (a' := ?_) #[true, true, true, true, true, true, true, true, true] rfl rfl (any_of HT_.out (by kernel_rfl)) (fun _ _ _ h => h) (Or.inl ⟨by rfl, ?_⟩) ?_ ?_
       rotate_left
       ·intro w'
        go_simp
        with_reducible rfl
       rotate_left
       ·simp only [Act.put, List.setIfInBounds_toArray, List.set_cons_zero, List.set_cons_succ, i64_w, i32_w]
        rfl
       refine done_ (done_of HT_.out (by kernel_rfl)) ?_
       try go_wp2
       go_ret
       exact ⟨by first | rfl | (simp [errW_none, errW_some] <;> rfl) | (simp [*, errW_none, errW_some] <;> rfl), by repeat (first | (with_reducible first | exact HB.out | apply below_alloc | apply pw_below_drewN | apply below_drew1 | refine below_set ?_ GE221.out | refine below_set ?_ GE222.out) | exact HB.out)⟩
      ·rw [if_neg c27] at H
       exact absurd H (by simp)
     ·replace c26 := Bool.eq_false_iff.mpr c26
      subst c26
      have H1 := H; rw [if_neg (show ¬ (false = true) by decide)] at H1
      clear H; have H := H1; clear H1
      obtain rfl := Option.some.inj H
      have hnb38 := NB222_221.out; have hnc38 := NB221_222.out; obtain ⟨hcz39_0, hcz39_1, hcz39_2, hcz39_3⟩ := cl4 BK222.out; obtain ⟨hfz39_0, hfz39_1, hfz39_2, hfz39_3⟩ := fl4 BK222.out; obtain ⟨hcz40_0, hcz40_1, hcz40_2, hcz40_3, hcz40_4, hcz40_5⟩ := cl6 BK221.out; obtain ⟨hfz40_0, hfz40_1, hfz40_2, hfz40_3, hfz40_4, hfz40_5⟩ := fl6 BK221.out
      try go_wp2_with (first | ((with_reducible refine gate_callee (f := 53) rfl ?_); refine goesL_ (some 42) rfl rfl Tryd.func53 (by kernel_rfl) rfl #[.agg #[.int .i64 a0_0, .int .i64 a0_1, .int .i64 a0_2, .int .i64 a0_3, .string a0_4, .string a0_5]] rfl (by (try simp only [List.map_toArray, List.map_cons, List.map_nil]); first | done | rfl | (simp only [List.length_drop, List.length_take]; rfl)) ?_; (with_reducible refine (weld_short.calls a0_0 a0_1 a0_2 a0_3 a0_4 a0_5 t223 false _ A25.out).mono ?_); rintro e w41 ⟨rfl, hb⟩; refine ⟨_, rfl, ?_⟩; have n0_ := Aside0.mk (blk_below (pl BK221.out) hb); have n1_ := Aside0.mk (blk_below (pl BK222.out) hb); have n2_ := Aside0.mk (below_step (by repeat (first | (with_reducible first | exact HB.out | apply below_alloc | apply pw_below_drewN | apply below_drew1 | refine below_set ?_ GE221.out | refine below_set ?_ GE222.out) | exact HB.out)) hb); clear BK221; clear BK222; clear HB; have BK221 := n0_; have BK222 := n1_; have HB := n2_; clear n0_ n1_ n2_; (try clear hb); (try clear hb2); (try clear hk); (try clear hi)))
      have n0_ := Aside0.mk (blk_drew BK221.out)
      have n1_ := Aside0.mk (blk_drew BK222.out)
      have n2_ := Aside0.mk (below_drew1 HB.out)
      clear BK221; clear BK222; clear HB; have BK221 := n0_; have BK222 := n1_; have HB := n2_; clear n0_ n1_ n2_
      refine start_ (n := 9) (S := fun w' => True) (ds := []) #[false, false, false, false, false, false, false, false, false] (by kernel_rfl) rfl rfl trivial (fun hHeld => ?_); refine with_tabW weld_Valid.tab6 weld_Valid.bits6 (fun HT_ HW_ => ?_)
      generalize w41.drew = w42 at BK221 BK222 HB hHeld ⊢
      refine pure_ (i := 0) (N := some 45) (v := ?_) (a' := ?_) #[true, false, false, false, false, false, false, false, false] rfl rfl (any_of HT_.out (by kernel_rfl)) (fun _ _ _ h => h) (Or.inl ⟨by rfl, ?_⟩) ?_ ?_
      rotate_left
      ·intro w'
       go_simp
       with_reducible rfl
      rotate_left
      ·simp only [Act.put, List.setIfInBounds_toArray, List.set_cons_zero, List.set_cons_succ, i64_w, i32_w]
       rfl
      refine pure_ (i := 1) (N := some 46) (v := ?_) (a' := ?_) #[true, true, false, false, false, false, false, false, false] rfl rfl (any_of HT_.out (by kernel_rfl)) (fun _ _ _ h => h) (Or.inl ⟨by rfl, ?_⟩) ?_ ?_
      rotate_left
      ·intro w'
       go_simp
       with_reducible rfl
      rotate_left
      ·simp only [Act.put, List.setIfInBounds_toArray, List.set_cons_zero, List.set_cons_succ, i64_w, i32_w]
       rfl
      refine pure_ (i := 2) (N := some 47) (v := undef) (a' := ?_) #[true, true, true, false, false, false, false, false, false] rfl rfl (any_of HT_.out (by kernel_rfl)) (fun _ _ _ h => h) (Or.inr ⟨by rfl, rfl⟩) ?_ ?_
      rotate_left
      ·simp only [Act.put, List.setIfInBounds_toArray, List.set_cons_zero, List.set_cons_succ, i64_w, i32_w]
       rfl
      refine pure_ (i := 3) (N := some 48) (v := undef) (a' := ?_) #[true, true, true, true, false, false, false, false, false] rfl rfl (any_of HT_.out (by kernel_rfl)) (fun _ _ _ h => h) (Or.inr ⟨by rfl, rfl⟩) ?_ ?_
      rotate_left
      ·simp only [Act.put, List.setIfInBounds_toArray, List.set_cons_zero, List.set_cons_succ, i64_w, i32_w]
       rfl
      refine pure_ (i := 4) (N := some 49) (v := undef) (a' := ?_) #[true, true, true, true, true, false, false, false, false] rfl rfl (any_of HT_.out (by kernel_rfl)) (fun _ _ _ h => h) (Or.inr ⟨by rfl, rfl⟩) ?_ ?_
      rotate_left
      ·simp only [Act.put, List.setIfInBounds_toArray, List.set_cons_zero, List.set_cons_succ, i64_w, i32_w]
       rfl
      refine pure_ (i := 5) (N := some 50) (v := undef) (a' := ?_) #[true, true, true, true, true, true, false, false, false] rfl rfl (any_of HT_.out (by kernel_rfl)) (fun _ _ _ h => h) (Or.inr ⟨by rfl, rfl⟩) ?_ ?_
      rotate_left
      ·simp only [Act.put, List.setIfInBounds_toArray, List.set_cons_zero, List.set_cons_succ, i64_w, i32_w]
       rfl
      refine pure_ (i := 6) (N := some 51) (v := undef) (a' := ?_) #[true, true, true, true, true, true, true, false, false] rfl rfl (any_of HT_.out (by kernel_rfl)) (fun _ _ _ h => h) (Or.inr ⟨by rfl, rfl⟩) ?_ ?_
      rotate_left
      ·simp only [Act.put, List.setIfInBounds_toArray, List.set_cons_zero, List.set_cons_succ, i64_w, i32_w]
       rfl
      refine pure_ (i := 7) (N := some 52) (v := ?_) (a' := ?_) #[true, true, true, true, true, true, true, true, false] rfl rfl (any_of HT_.out (by kernel_rfl)) (fun _ _ _ h => h) (Or.inl ⟨by rfl, ?_⟩) ?_ ?_
      rotate_left
      ·intro w'
       go_simp
       with_reducible rfl
      rotate_left
      ·simp only [Act.put, List.setIfInBounds_toArray, List.set_cons_zero, List.set_cons_succ, i64_w, i32_w]
       rfl
      refine pure_ (i := 8) (N := some 2) (v := ?_) (a' := ?_) #[true, true, true, true, true, true, true, true, true] rfl rfl (any_of HT_.out (by kernel_rfl)) (fun _ _ _ h => h) (Or.inl ⟨by rfl, ?_⟩) ?_ ?_
      rotate_left
      ·intro w'
       go_simp
       with_reducible rfl
      rotate_left
      ·simp only [Act.put, List.setIfInBounds_toArray, List.set_cons_zero, List.set_cons_succ, i64_w, i32_w]
       rfl
      refine done_ (done_of HT_.out (by kernel_rfl)) ?_
      try go_wp2
      go_ret
      exact ⟨by first | rfl | (simp [errW_none, errW_some] <;> rfl) | (simp [*, errW_none, errW_some] <;> rfl), by repeat (first | (with_reducible first | exact HB.out | apply below_alloc | apply pw_below_drewN | apply below_drew1 | refine below_set ?_ GE221.out | refine below_set ?_ GE222.out) | exact HB.out)⟩
    ·rw [if_neg c24] at H
     have c24b0 : decide (a0_0 ≤ 6) = false := decide_eq_false c24
     clear c24
     by_cases c43 : a0_1 ≥ 0
     ·rw [if_pos c43] at H
      have c43b0 : decide (0 ≤ a0_1) = true := decide_eq_true c43
      clear c43
      by_cases c44 : a0_1 ≤ a0_0
      ·rw [if_pos c44] at H
       have c44b0 : decide (a0_1 ≤ a0_0) = true := decide_eq_true c44
       clear c44
       by_cases c45 : a0_2 ≥ 0
       ·rw [if_pos c45] at H
        have c45b0 : decide (0 ≤ a0_2) = true := decide_eq_true c45
        clear c45
        by_cases c46 : a0_2 ≤ a0_0
        ·rw [if_pos c46] at H
         have c46b0 : decide (a0_2 ≤ a0_0) = true := decide_eq_true c46
         clear c46
         by_cases c47 : (wrap64 (a0_2 - a0_1)) ≥ 0
         ·rw [if_pos c47] at H
          have c47b0 : decide (0 ≤ (wrap64 (a0_2 - a0_1))) = true := decide_eq_true c47
          clear c47
          by_cases c48 : (wrap64 (a0_1 - (wrap64 (a0_2 - a0_1)))) ≥ 0
          ·rw [if_pos c48] at H
           have c48b0 : decide (0 ≤ (wrap64 (a0_1 - (wrap64 (a0_2 - a0_1))))) = true := decide_eq_true c48
           clear c48
           by_cases c49 : (wrap64 (a0_0 - (wrap64 (4 * (wrap64 (a0_2 - a0_1)))))) ≥ (wrap64 (a0_1 - (wrap64 (a0_2 - a0_1))))
           ·rw [if_pos c49] at H
            have c49b0 : decide ((wrap64 (a0_1 - (wrap64 (a0_2 - a0_1)))) ≤ (wrap64 (a0_0 - (wrap64 (4 * (wrap64 (a0_2 - a0_1))))))) = true := decide_eq_true c49
            clear c49
            by_cases c50 : (wrap64 (a0_0 - (wrap64 (4 * (wrap64 (a0_2 - a0_1)))))) ≤ (wrap64 (3 * (wrap64 (a0_1 - (wrap64 (a0_2 - a0_1))))))
            ·rw [if_pos c50] at H
             have c50b0 : decide ((wrap64 (a0_0 - (wrap64 (4 * (wrap64 (a0_2 - a0_1)))))) ≤ (wrap64 (3 * (wrap64 (a0_1 - (wrap64 (a0_2 - a0_1))))))) = true := decide_eq_true c50
             clear c50
             by_cases c51 : a0_3 ≥ 0
             ·rw [if_pos c51] at H
              have c51b0 : decide (0 ≤ a0_3) = true := decide_eq_true c51
              clear c51
              obtain rfl := Option.some.inj H
              have hnb52 := NB222_221.out; have hnc52 := NB221_222.out; obtain ⟨hcz53_0, hcz53_1, hcz53_2, hcz53_3⟩ := cl4 BK222.out; obtain ⟨hfz53_0, hfz53_1, hfz53_2, hfz53_3⟩ := fl4 BK222.out
              go_wp2
              go_ret
              exact ⟨by first | rfl | (simp [errW_none, errW_some] <;> rfl) | (simp [*, errW_none, errW_some] <;> rfl), by repeat (first | (with_reducible first | exact HB.out | apply below_alloc | apply pw_below_drewN | apply below_drew1 | refine below_set ?_ GE221.out | refine below_set ?_ GE222.out) | exact HB.out)⟩
             ·rw [if_neg c51] at H
              have c51b0 : decide (0 ≤ a0_3) = false := decide_eq_false c51
              clear c51
              obtain rfl := Option.some.inj H
              have hnb54 := NB222_221.out; have hnc54 := NB221_222.out; obtain ⟨hcz55_0, hcz55_1, hcz55_2, hcz55_3⟩ := cl4 BK222.out; obtain ⟨hfz55_0, hfz55_1, hfz55_2, hfz55_3⟩ := fl4 BK222.out
              go_wp2
              go_ret
              exact ⟨by first | rfl | (simp [errW_none, errW_some] <;> rfl) | (simp [*, errW_none, errW_some] <;> rfl), by repeat (first | (with_reducible first | exact HB.out | apply below_alloc | apply pw_below_drewN | apply below_drew1 | refine below_set ?_ GE221.out | refine below_set ?_ GE222.out) | exact HB.out)⟩
            ·rw [if_neg c50] at H
             have c50b0 : decide ((wrap64 (a0_0 - (wrap64 (4 * (wrap64 (a0_2 - a0_1)))))) ≤ (wrap64 (3 * (wrap64 (a0_1 - (wrap64 (a0_2 - a0_1))))))) = false := decide_eq_false c50
             clear c50
             obtain rfl := Option.some.inj H
             have hnb56 := NB222_221.out; have hnc56 := NB221_222.out; obtain ⟨hcz57_0, hcz57_1, hcz57_2, hcz57_3⟩ := cl4 BK222.out; obtain ⟨hfz57_0, hfz57_1, hfz57_2, hfz57_3⟩ := fl4 BK222.out
             go_wp2
             go_ret
             exact ⟨by first | rfl | (simp [errW_none, errW_some] <;> rfl) | (simp [*, errW_none, errW_some] <;> rfl), by repeat (first | (with_reducible first | exact HB.out | apply below_alloc | apply pw_below_drewN | apply below_drew1 | refine below_set ?_ GE221.out | refine below_set ?_ GE222.out) | exact HB.out)⟩
           ·rw [if_neg c49] at H
            have c49b0 : decide ((wrap64 (a0_1 - (wrap64 (a0_2 - a0_1)))) ≤ (wrap64 (a0_0 - (wrap64 (4 * (wrap64 (a0_2 - a0_1))))))) = false := decide_eq_false c49
            clear c49
            obtain rfl := Option.some.inj H
            have hnb58 := NB222_221.out; have hnc58 := NB221_222.out; obtain ⟨hcz59_0, hcz59_1, hcz59_2, hcz59_3⟩ := cl4 BK222.out; obtain ⟨hfz59_0, hfz59_1, hfz59_2, hfz59_3⟩ := fl4 BK222.out
            go_wp2
            go_ret
            exact ⟨by first | rfl | (simp [errW_none, errW_some] <;> rfl) | (simp [*, errW_none, errW_some] <;> rfl), by repeat (first | (with_reducible first | exact HB.out | apply below_alloc | apply pw_below_drewN | apply below_drew1 | refine below_set ?_ GE221.out | refine below_set ?_ GE222.out) | exact HB.out)⟩
          ·rw [if_neg c48] at H
           have c48b0 : decide (0 ≤ (wrap64 (a0_1 - (wrap64 (a0_2 - a0_1))))) = false := decide_eq_false c48
           clear c48
           obtain rfl := Option.some.inj H
           have hnb60 := NB222_221.out; have hnc60 := NB221_222.out; obtain ⟨hcz61_0, hcz61_1, hcz61_2, hcz61_3⟩ := cl4 BK222.out; obtain ⟨hfz61_0, hfz61_1, hfz61_2, hfz61_3⟩ := fl4 BK222.out
           go_wp2
           go_ret
           exact ⟨by first | rfl | (simp [errW_none, errW_some] <;> rfl) | (simp [*, errW_none, errW_some] <;> rfl), by repeat (first | (with_reducible first | exact HB.out | apply below_alloc | apply pw_below_drewN | apply below_drew1 | refine below_set ?_ GE221.out | refine below_set ?_ GE222.out) | exact HB.out)⟩
         ·rw [if_neg c47] at H
          have c47b0 : decide (0 ≤ (wrap64 (a0_2 - a0_1))) = false := decide_eq_false c47
          clear c47
          obtain rfl := Option.some.inj H
          have hnb62 := NB222_221.out; have hnc62 := NB221_222.out; obtain ⟨hcz63_0, hcz63_1, hcz63_2, hcz63_3⟩ := cl4 BK222.out; obtain ⟨hfz63_0, hfz63_1, hfz63_2, hfz63_3⟩ := fl4 BK222.out
          go_wp2
          go_ret
          exact ⟨by first | rfl | (simp [errW_none, errW_some] <;> rfl) | (simp [*, errW_none, errW_some] <;> rfl), by repeat (first | (with_reducible first | exact HB.out | apply below_alloc | apply pw_below_drewN | apply below_drew1 | refine below_set ?_ GE221.out | refine below_set ?_ GE222.out) | exact HB.out)⟩
        ·rw [if_neg c46] at H
         have c46b0 : decide (a0_2 ≤ a0_0) = false := decide_eq_false c46
         clear c46
         obtain rfl := Option.some.inj H
         have hnb64 := NB222_221.out; have hnc64 := NB221_222.out; obtain ⟨hcz65_0, hcz65_1, hcz65_2, hcz65_3⟩ := cl4 BK222.out; obtain ⟨hfz65_0, hfz65_1, hfz65_2, hfz65_3⟩ := fl4 BK222.out
         go_wp2
         go_ret
         exact ⟨by first | rfl | (simp [errW_none, errW_some] <;> rfl) | (simp [*, errW_none, errW_some] <;> rfl), by repeat (first | (with_reducible first | exact HB.out | apply below_alloc | apply pw_below_drewN | apply below_drew1 | refine below_set ?_ GE221.out | refine below_set ?_ GE222.out) | exact HB.out)⟩
       ·rw [if_neg c45] at H
        have c45b0 : decide (0 ≤ a0_2) = false := decide_eq_false c45
        clear c45
        obtain rfl := Option.some.inj H
        have hnb66 := NB222_221.out; have hnc66 := NB221_222.out; obtain ⟨hcz67_0, hcz67_1, hcz67_2, hcz67_3⟩ := cl4 BK222.out; obtain ⟨hfz67_0, hfz67_1, hfz67_2, hfz67_3⟩ := fl4 BK222.out
        go_wp2
        go_ret
        exact ⟨by first | rfl | (simp [errW_none, errW_some] <;> rfl) | (simp [*, errW_none, errW_some] <;> rfl), by repeat (first | (with_reducible first | exact HB.out | apply below_alloc | apply pw_below_drewN | apply below_drew1 | refine below_set ?_ GE221.out | refine below_set ?_ GE222.out) | exact HB.out)⟩
      ·rw [if_neg c44] at H
       have c44b0 : decide (a0_1 ≤ a0_0) = false := decide_eq_false c44
       clear c44
       obtain rfl := Option.some.inj H
       have hnb68 := NB222_221.out; have hnc68 := NB221_222.out; obtain ⟨hcz69_0, hcz69_1, hcz69_2, hcz69_3⟩ := cl4 BK222.out; obtain ⟨hfz69_0, hfz69_1, hfz69_2, hfz69_3⟩ := fl4 BK222.out
       go_wp2
       go_ret
       exact ⟨by first | rfl | (simp [errW_none, errW_some] <;> rfl) | (simp [*, errW_none, errW_some] <;> rfl), by repeat (first | (with_reducible first | exact HB.out | apply below_alloc | apply pw_below_drewN | apply below_drew1 | refine below_set ?_ GE221.out | refine below_set ?_ GE222.out) | exact HB.out)⟩
     ·rw [if_neg c43] at H
      have c43b0 : decide (0 ≤ a0_1) = false := decide_eq_false c43
      clear c43
      obtain rfl := Option.some.inj H
      have hnb70 := NB222_221.out; have hnc70 := NB221_222.out; obtain ⟨hcz71_0, hcz71_1, hcz71_2, hcz71_3⟩ := cl4 BK222.out; obtain ⟨hfz71_0, hfz71_1, hfz71_2, hfz71_3⟩ := fl4 BK222.out
      go_wp2
      go_ret
      exact ⟨by first | rfl | (simp [errW_none, errW_some] <;> rfl) | (simp [*, errW_none, errW_some] <;> rfl), by repeat (first | (with_reducible first | exact HB.out | apply below_alloc | apply pw_below_drewN | apply below_drew1 | refine below_set ?_ GE221.out | refine below_set ?_ GE222.out) | exact HB.out)⟩
end Go.Proofs.YteoonhidjldnfaaDoor.Pr

namespace Go.Proofs.YteoonhidjldnfaaDoor.Pr
open Go.RowKit Go.Proofs.YteoonhidjldnfaaDoorW.PrintWords Go.Proofs.YteoonhidjldnfaaDoorW.PrintLast Go.Proofs.YteoonhidjldnfaaDoorW.PrintMore
attribute [local go_sem] max2_int min2_int max_two min_two max_three min_three max_four min_four   -- for this text's walks alone
set_option linter.unusedVariables false
set_option linter.unusedSimpArgs false
def weld_sum.f (a0_0 : Int) (a0_1 : Int) (a0_2 : Int) (a0_3 : Int) (a1_0 : Int) (a1_1 : Int) (a1_2 : Int) (a1_3 : Int) (a2 : Int) : Option (Int × Int × Int × Int) := some (wrap64 (a0_0 + (wrap64 (a2 * a1_0))), wrap64 (a0_1 + (wrap64 (a2 * a1_1))), wrap64 (a0_2 + (wrap64 (a2 * a1_2))), wrap64 (a0_3 + (wrap64 (a2 * a1_3))))
set_option maxHeartbeats 8000000 in
set_option maxRecDepth 100000 in
theorem weld_sum.calls (a0_0 : Int) (a0_1 : Int) (a0_2 : Int) (a0_3 : Int) (a1_0 : Int) (a1_1 : Int) (a1_2 : Int) (a1_3 : Int) (a2 : Int) (r1 : Int) (r2 : Int) (r3 : Int) (r4 : Int) (w : World) (h : weld_sum.f a0_0 a0_1 a0_2 a0_3 a1_0 a1_1 a1_2 a1_3 a2 = some (r1, r2, r3, r4)) :
  Calls Tryd.prog 45 #[.agg #[.int .i64 a0_0, .int .i64 a0_1, .int .i64 a0_2, .int .i64 a0_3], .agg #[.int .i64 a1_0, .int .i64 a1_1, .int .i64 a1_2, .int .i64 a1_3], .int .i64 a2] w fun e w' => e = .returned (.agg #[.int .i64 r1, .int .i64 r2, .int .i64 r3, .int .i64 r4]) ∧ Below w.heap.size w w' := by
 have hu34 := Tryd.underlying34
 have HB := Aside0.mk (Below.refl w.heap.size w)
 have H : (some (wrap64 (a0_0 + (wrap64 (a2 * a1_0))), wrap64 (a0_1 + (wrap64 (a2 * a1_1))), wrap64 (a0_2 + (wrap64 (a2 * a1_2))), wrap64 (a0_3 + (wrap64 (a2 * a1_3))))) = some (r1, r2, r3, r4) := h
 clear h
 simp only [Option.some.injEq, Prod.mk.injEq] at H
 obtain ⟨rfl, rfl, rfl, rfl⟩ := H
 go_enter Tryd.func45, Tryd.ntmps45
 go_wp2_with (first | ((with_reducible refine gate_dst (N := 3) rfl ?_); refine box_event ?hg (N := 3) ?hd (cs := #[.int .i64 a0_0, .int .i64 a0_1, .int .i64 a0_2, .int .i64 a0_3]) (t := 34) ?hr ?_; (case hd => rfl); (case hg => rfl); (case hr => first | (go_simp; done) | (go_simp; rfl)); intro gb254 hg w4 hbox hb; have n0_ := Aside0.mk (below_step (bl HB.out) hb); have n1_ := Aside0.mk (hbox); have n2_ := Aside0.mk ((by rw [hg]; exact (below_size (bl HB.out)) : w.heap.size ≤ gb254)); have n3_ := Aside0.mk ((by rw [hg]; exact (below_size (bl HB.out)) : w.heap.size ≤ gb254)); clear HB; have HB := n0_; have BK254 := n1_; have GW254 := n2_; have GE254 := n3_; clear n0_ n1_ n2_ n3_; clear hb hbox hg) | ((with_reducible refine gate_dst (N := 4) rfl ?_); refine box_event ?hg (N := 4) ?hd (cs := #[.int .i64 a1_0, .int .i64 a1_1, .int .i64 a1_2, .int .i64 a1_3]) (t := 34) ?hr ?_; (case hd => rfl); (case hg => rfl); (case hr => first | (go_simp; done) | (go_simp; rfl)); intro gb255 hg w5 hbox hb; have n0_ := Aside0.mk (blk_below (pl BK254.out) hb); have n1_ := Aside0.mk (below_step (by repeat (first | (with_reducible first | exact HB.out | apply below_alloc | apply pw_below_drewN | apply below_drew1 | refine below_set ?_ GE254.out) | exact HB.out)) hb); have n2_ := Aside0.mk (hbox); have n3_ := Aside0.mk ((by rw [hg]; exact (below_size (by repeat (first | (with_reducible first | exact HB.out | apply below_alloc | apply pw_below_drewN | apply below_drew1 | refine below_set ?_ GE254.out) | exact HB.out))) : w.heap.size ≤ gb255)); have n4_ := Aside0.mk ((by rw [hg]; exact (below_size (by repeat (first | (with_reducible first | exact HB.out | apply below_alloc | apply pw_below_drewN | apply below_drew1 | refine below_set ?_ GE254.out) | exact HB.out))) : w.heap.size ≤ gb255)); have n5_ := Aside0.mk ((by rw [hg]; exact Nat.ne_of_lt (blk_lt (pl BK254.out)) : gb254 ≠ gb255)); have n6_ := Aside0.mk ((by rw [hg]; exact Nat.ne_of_gt (blk_lt (pl BK254.out)) : gb255 ≠ gb254)); clear BK254; clear HB; have BK254 := n0_; have HB := n1_; have BK255 := n2_; have GW255 := n3_; have GE255 := n4_; have NB254_255 := n5_; have NB255_254 := n6_; clear n0_ n1_ n2_ n3_ n4_ n5_ n6_; clear hb hbox hg) | ((with_reducible refine gate_dst (N := 6) rfl ?_); refine box_event ?hg (N := 6) ?hd (cs := #[.int .i64 0, .int .i64 0, .int .i64 0, .int .i64 0]) (t := 34) ?hr ?_; (case hd => rfl); (case hg => rfl); (case hr => first | (go_simp; done) | (go_simp; rfl)); intro gb256 hg w6 hbox hb; have n0_ := Aside0.mk (blk_below (pl BK254.out) hb); have n1_ := Aside0.mk (blk_below (pl BK255.out) hb); have n2_ := Aside0.mk (below_step (by repeat (first | (with_reducible first | exact HB.out | apply below_alloc | apply pw_below_drewN | apply below_drew1 | refine below_set ?_ GE254.out | refine below_set ?_ GE255.out) | exact HB.out)) hb); have n3_ := Aside0.mk (hbox); have n4_ := Aside0.mk ((by rw [hg]; exact (below_size (by repeat (first | (with_reducible first | exact HB.out | apply below_alloc | apply pw_below_drewN | apply below_drew1 | refine below_set ?_ GE254.out | refine below_set ?_ GE255.out) | exact HB.out))) : w.heap.size ≤ gb256)); have n5_ := Aside0.mk ((by rw [hg]; exact (below_size (by repeat (first | (with_reducible first | exact HB.out | apply below_alloc | apply pw_below_drewN | apply below_drew1 | refine below_set ?_ GE254.out | refine below_set ?_ GE255.out) | exact HB.out))) : w.heap.size ≤ gb256)); have n6_ := Aside0.mk ((by rw [hg]; exact Nat.ne_of_lt (blk_lt (pl BK254.out)) : gb254 ≠ gb256)); have n7_ := Aside0.mk ((by rw [hg]; exact Nat.ne_of_gt (blk_lt (pl BK254.out)) : gb256 ≠ gb254)); have n8_ := Aside0.mk ((by rw [hg]; exact Nat.ne_of_lt (blk_lt (pl BK255.out)) : gb255 ≠ gb256)); have n9_ := Aside0.mk ((by rw [hg]; exact Nat.ne_of_gt (blk_lt (pl BK255.out)) : gb256 ≠ gb255)); clear BK254; clear BK255; clear HB; have BK254 := n0_; have BK255 := n1_; have HB := n2_; have BK256 := n3_; have GW256 := n4_; have GE256 := n5_; have NB254_256 := n6_; have NB256_254 := n7_; have NB255_256 := n8_; have NB256_255 := n9_; clear n0_ n1_ n2_ n3_ n4_ n5_ n6_ n7_ n8_ n9_; clear hb hbox hg; have hnb7 := NB254_255.out; have hnc7 := NB255_254.out; have hnb8 := NB254_256.out; have hnc8 := NB256_254.out; obtain ⟨hcz9_0, hcz9_1, hcz9_2, hcz9_3⟩ := cl4 BK254.out; obtain ⟨hfz9_0, hfz9_1, hfz9_2, hfz9_3⟩ := fl4 BK254.out; have hnb10 := NB255_256.out; have hnc10 := NB256_255.out; obtain ⟨hcz11_0, hcz11_1, hcz11_2, hcz11_3⟩ := cl4 BK255.out; obtain ⟨hfz11_0, hfz11_1, hfz11_2, hfz11_3⟩ := fl4 BK255.out; obtain ⟨hcz12_0, hcz12_1, hcz12_2, hcz12_3⟩ := cl4 BK256.out; obtain ⟨hfz12_0, hfz12_1, hfz12_2, hfz12_3⟩ := fl4 BK256.out))
 refine bodyPost_ret (results_cell_row rfl _ _ gb256 34 #[.int .i64 (wrap64 (a0_0 + (wrap64 (a2 * a1_0)))), .int .i64 (wrap64 (a0_1 + (wrap64 (a2 * a1_1)))), .int .i64 (wrap64 (a0_2 + (wrap64 (a2 * a1_2)))), .int .i64 (wrap64 (a0_3 + (wrap64 (a2 * a1_3))))] (0, 0) _ rfl (by refine pl ?_; refine blk_put (cs := #[.int .i64 (wrap64 (a0_0 + (wrap64 (a2 * a1_0)))), .int .i64 (wrap64 (a0_1 + (wrap64 (a2 * a1_1)))), .int .i64 (wrap64 (a0_2 + (wrap64 (a2 * a1_2)))), .int .i64 0]) ?_ 3 _ rfl; refine pl ?_; refine blk_put (cs := #[.int .i64 (wrap64 (a0_0 + (wrap64 (a2 * a1_0)))), .int .i64 (wrap64 (a0_1 + (wrap64 (a2 * a1_1)))), .int .i64 0, .int .i64 0]) ?_ 2 _ rfl; refine pl ?_; refine blk_put (cs := #[.int .i64 (wrap64 (a0_0 + (wrap64 (a2 * a1_0)))), .int .i64 0, .int .i64 0, .int .i64 0]) ?_ 1 _ rfl; refine pl ?_; refine blk_put (cs := #[.int .i64 0, .int .i64 0, .int .i64 0, .int .i64 0]) ?_ 0 _ rfl; refine pl ?_; exact BK256.out) Tryd.underlying34 rfl (by kernel_rfl)) rfl ?_
 exact ⟨by first | rfl | (simp [errW_none, errW_some] <;> rfl) | (simp [*, errW_none, errW_some] <;> rfl), by repeat (first | (with_reducible first | exact HB.out | apply below_alloc | apply pw_below_drewN | apply below_drew1 | refine below_set ?_ GE254.out | refine below_set ?_ GE255.out | refine below_set ?_ GE256.out) | exact HB.out)⟩
def weld_head.f (a0 : ByteArray) : Option (ByteArray) := if 0 ≤ (mn 3 (a0.size : Int)) then (if (mn 3 (a0.size : Int)) ≤ (a0.size : Int) then (some (a0.extract 0 ((mn 3 (a0.size : Int)) : Int).toNat)) else (none)) else (none)
set_option maxHeartbeats 8000000 in
set_option maxRecDepth 100000 in
theorem weld_head.calls (a0 : ByteArray) (r : ByteArray) (w : World) (h : weld_head.f a0 = some r) :
  Calls Tryd.prog 46 #[.string a0] w fun e w' => e = .returned (.string r) ∧ Below w.heap.size w w' := by
 have HB := Aside0.mk (Below.refl w.heap.size w)
 have H : (if 0 ≤ (mn 3 (a0.size : Int)) then (if (mn 3 (a0.size : Int)) ≤ (a0.size : Int) then (some (a0.extract 0 ((mn 3 (a0.size : Int)) : Int).toNat)) else (none)) else (none)) = some r := h
 clear h
 obtain ⟨ji2, hji2⟩ : ∃ j_ : Int, (mn 3 (a0.size : Int)) = j_ := ⟨_, rfl⟩
 replace H : (if 0 ≤ (ji2) then (if (ji2) ≤ (a0.size : Int) then (some (a0.extract 0 ((ji2) : Int).toNat)) else (none)) else (none)) = some r := by first | (rw [hji2] at H; exact H) | (simp only [hji2] at H ⊢; exact H)
 (try (have hji2h : ji2 ≤ 3 := by (rw [← hji2]; unfold mn; (repeat' split) <;> omega)))
 (try (have hji2g : ji2 ≤ 64 := by omega))
 (try (have hji2l : 0 ≤ ji2 := by (rw [← hji2]; unfold mn; (repeat' split) <;> omega)))
 (try (have hji2m : 0 ≤ ji2 := by omega))
 have hji2_ : (if (a0.size : Int) < 3 then (a0.size : Int) else 3) = ji2 := hji2
 by_cases c3 : 0 ≤ (ji2)
 ·rw [if_pos c3] at H
  have c3b0 := eq_true c3
  have c3b1 : decide (0 ≤ (ji2)) = true := decide_eq_true c3
  clear c3
  by_cases c4 : (ji2) ≤ (a0.size : Int)
  ·rw [if_pos c4] at H
   have c4b0 := eq_true c4
   have c4b1 : decide ((ji2) ≤ (a0.size : Int)) = true := decide_eq_true c4
   clear c4
   obtain rfl := Option.some.inj H
   go_enter Tryd.func46, Tryd.ntmps46
   go_wp2
   go_ret
   exact ⟨by first | rfl | (simp [errW_none, errW_some] <;> rfl) | (simp only [← hji2]; first | rfl | (simp [errW_none, errW_some] <;> rfl)) | (simp [*, errW_none, errW_some] <;> rfl), bl HB.out⟩
  ·rw [if_neg c4] at H
   exact absurd H (by simp)
 ·rw [if_neg c3] at H
  exact absurd H (by simp)
def weld_tail.f (a0 : ByteArray) : Option (ByteArray) := if 0 ≤ (mx 0 (wrap64 ((a0.size : Int) - 3))) then (if (mx 0 (wrap64 ((a0.size : Int) - 3))) ≤ (a0.size : Int) then (some (a0.extract ((mx 0 (wrap64 ((a0.size : Int) - 3))) : Int).toNat a0.size)) else (none)) else (none)
set_option maxHeartbeats 8000000 in
set_option maxRecDepth 100000 in
theorem weld_tail.calls (a0 : ByteArray) (r : ByteArray) (w : World) (h : weld_tail.f a0 = some r) :
  Calls Tryd.prog 47 #[.string a0] w fun e w' => e = .returned (.string r) ∧ Below w.heap.size w w' := by
 have HB := Aside0.mk (Below.refl w.heap.size w)
 have H : (if 0 ≤ (mx 0 (wrap64 ((a0.size : Int) - 3))) then (if (mx 0 (wrap64 ((a0.size : Int) - 3))) ≤ (a0.size : Int) then (some (a0.extract ((mx 0 (wrap64 ((a0.size : Int) - 3))) : Int).toNat a0.size)) else (none)) else (none)) = some r := h
 clear h
 obtain ⟨ji2, hji2⟩ : ∃ j_ : Int, (mx 0 (wrap64 ((a0.size : Int) - 3))) = j_ := ⟨_, rfl⟩
 replace H : (if 0 ≤ (ji2) then (if (ji2) ≤ (a0.size : Int) then (some (a0.extract ((ji2) : Int).toNat a0.size)) else (none)) else (none)) = some r := by first | (rw [hji2] at H; exact H) | (simp only [hji2] at H ⊢; exact H)
 (try (have hji2l : 0 ≤ ji2 := by (rw [← hji2]; unfold mx; (repeat' split) <;> omega)))
 (try (have hji2m : 0 ≤ ji2 := by omega))
 have hji2_ : (if 0 < (wrap64 ((a0.size : Int) - 3)) then (wrap64 ((a0.size : Int) - 3)) else 0) = ji2 := hji2
 by_cases c3 : 0 ≤ (ji2)
 ·rw [if_pos c3] at H
  have c3b0 := eq_true c3
  have c3b1 : decide (0 ≤ (ji2)) = true := decide_eq_true c3
  clear c3
  by_cases c4 : (ji2) ≤ (a0.size : Int)
  ·rw [if_pos c4] at H
   have c4b0 := eq_true c4
   have c4b1 : decide ((ji2) ≤ (a0.size : Int)) = true := decide_eq_true c4
   clear c4
   obtain rfl := Option.some.inj H
   go_enter Tryd.func47, Tryd.ntmps47
   go_wp2
   go_ret
   exact ⟨by first | rfl | (simp [errW_none, errW_some] <;> rfl) | (simp only [← hji2]; first | rfl | (simp [errW_none, errW_some] <;> rfl)) | (simp [*, errW_none, errW_some] <;> rfl), bl HB.out⟩
  ·rw [if_neg c4] at H
   exact absurd H (by simp)
 ·rw [if_neg c3] at H
  exact absurd H (by simp)
end Go.Proofs.YteoonhidjldnfaaDoor.Pr

namespace Go.Proofs.YteoonhidjldnfaaDoor.PuMs
open Go.RowKit Go.Proofs.YteoonhidjldnfaaDoor.Pr Go.Proofs.YteoonhidjldnfaaDoor.Math Go.Proofs.YteoonhidjldnfaaDoor.PuSz Go.Proofs.YteoonhidjldnfaaDoorW.PrintWords Go.Proofs.YteoonhidjldnfaaDoorW.PrintLast Go.Proofs.YteoonhidjldnfaaDoorW.PrintMore
set_option linter.unusedVariables false
set_option linter.unusedSimpArgs false
theorem head_eq' (s : ByteArray) : weld_head.f s = some (strOfNums ((bytesOf s).take 3)) := by
  have h := mn_le s.size
  unfold weld_head.f
  rw [if_pos h.1, if_pos h.2.1]
  congr 1
  apply bo_inj
  rw [ex_head, bo_str _ ((bo_byt s).take 3)]
theorem tail_eq (s : ByteArray) (hs : s.size ≤ 4611686018427387904) : weld_tail.f s = some (strOfNums ((bytesOf s).drop (s.size - 3))) := by
  have h := mx_le s.size
  unfold weld_tail.f
  rw [w64 (by omega) (by omega), if_pos h.1, if_pos h.2]
  congr 1
  apply bo_inj
  rw [mx_tail, ex_tail, bo_str _ ((bo_byt s).drop _)]
theorem ends_six (n : Nat) (hn : n ≤ 6) (H T : List Int) (hH : H.length = min 3 n) (hT : T.length = min 3 n) (he : H.drop (n - T.length) = T.take (H.length + T.length - n)) :
    (H ++ T.drop (H.length + T.length - n)).length = n ∧ (H ++ T.drop (H.length + T.length - n)).take 3 = H ∧ (H ++ T.drop (H.length + T.length - n)).drop (n - 3) = T := by
  have e1 : (H ++ T.drop (H.length + T.length - n)).length = n := by rw [List.length_append, List.length_drop]; omega
  refine ⟨e1, ?_, ?_⟩
  · by_cases h3 : 3 ≤ n
    · rw [show 3 = H.length by omega, List.take_left]
    · rw [List.take_of_length_le (by omega), List.drop_of_length_le (by omega), List.append_nil]
  · have e2 : H ++ T.drop (H.length + T.length - n) = H.take (n - T.length) ++ T := by
      have e0 : H.take (n - T.length) ++ T.take (H.length + T.length - n) = H := by rw [← he, List.take_append_drop]
      generalize H.length + T.length - n = o at *
      rw [show H ++ T.drop o = (H.take (n - T.length) ++ T.take o) ++ T.drop o by rw [e0], List.append_assoc, List.take_append_drop]
    rw [e2]
    have e3 : n - 3 = (H.take (n - T.length)).length := by rw [List.length_take]; omega
    rw [e3, List.drop_left]
theorem weldShort_eq (n r u e : Int) (h t : ByteArray) (hn : 0 ≤ n ∧ n ≤ 6) (hh : (h.size : Int) = min 3 n) (ht : (t.size : Int) = min 3 n) :
    weld_short.f n r u e h t = some (if (bytesOf h).drop (n.toNat - t.size) = (bytesOf t).take (h.size + t.size - n.toNat) then (strOfNums (bytesOf h ++ (bytesOf t).drop (h.size + t.size - n.toNat)), true) else (⟨#[]⟩, false)) := by
  have s1 : wrap64 ((h.size : Int) + (t.size : Int)) = ((h.size + t.size : Nat) : Int) := by rw [w64 (by omega) (by omega)]; omega
  have s2 : wrap64 (((h.size + t.size : Nat) : Int) - n) = ((h.size + t.size - n.toNat : Nat) : Int) := by rw [w64 (by omega) (by omega)]; omega
  have s3 : wrap64 ((h.size : Int) - ((h.size + t.size - n.toNat : Nat) : Int)) = ((n.toNat - t.size : Nat) : Int) := by rw [w64 (by omega) (by omega)]; omega
  unfold weld_short.f
  rw [s1, s2, s3, if_pos (by omega), if_pos (by omega), if_pos (by omega), if_pos (by omega)]
  simp only [Int.toNat_natCast, tl_eq]
  rw [ex_tail, bo_extract, List.drop_zero, Nat.sub_zero]
  by_cases hc : (bytesOf h).drop (n.toNat - t.size) = (bytesOf t).take (h.size + t.size - n.toNat)
  · rw [if_pos hc, if_pos hc, if_pos (by rw [ByteArray.size_extract]; omega)]
    congr 2
    apply bo_inj
    rw [bo_append, ex_tail, bo_str _ ((bo_byt h).append ((bo_byt t).drop _))]
  · rw [if_neg hc, if_neg hc]
theorem vldB_in (n r u e : Int) (H T : List Int) (hn : 0 ≤ n ∧ n ≤ 268435456) (hh : (H.length : Int) = min 3 n) (ht : (T.length : Int) = min 3 n) : vldB n r u e H T =
    if n ≤ 6 then decide (H.drop (n.toNat - T.length) = T.take (H.length + T.length - n.toNat)) && decide (r = rn (H ++ T.drop (H.length + T.length - n.toNat)) ∧ u = rn (H ++ T.drop (H.length + T.length - n.toNat)) + fr (H ++ T.drop (H.length + T.length - n.toNat)) ∧ e = en 0 (H ++ T.drop (H.length + T.length - n.toNat)))
    else decide (0 ≤ r ∧ r ≤ n ∧ r ≤ u ∧ u ≤ 2 * r ∧ r - (u - r) ≤ n - 4 * (u - r) ∧ n - 4 * (u - r) ≤ 3 * (r - (u - r)) ∧ 0 ≤ e ∧ e ≤ r) := by
  unfold vldB
  rw [if_neg (by omega)]
theorem weldValid_j0 (k : Nat) (n r u e : Int) (h t : ByteArray) (hn : 0 ≤ n ∧ n ≤ 268435456) (hh : (h.size : Int) = min 3 n) (ht : (t.size : Int) = min 3 n) (hr : -9223372036854775808 ≤ r ∧ r ≤ 9223372036854775807) (hu : -9223372036854775808 ≤ u ∧ u ≤ 9223372036854775807) :
    weld_Valid.j0 (k + 1) false n r u e h t n r u e = some (vldB n r u e (bytesOf h) (bytesOf t)) := by
  rw [vldB_in n r u e (bytesOf h) (bytesOf t) hn (by rw [bytesOf_length]; exact hh) (by rw [bytesOf_length]; exact ht)]
  simp only [weld_Valid.j0, Bool.false_eq_true, if_false]
  by_cases h6 : n ≤ 6
  · rw [if_pos h6, if_pos h6, weldShort_eq n r u e h t ⟨hn.1, h6⟩ hh ht]
    simp only [Option.bind_some, bytesOf_length]
    by_cases hc : (bytesOf h).drop (n.toNat - t.size) = (bytesOf t).take (h.size + t.size - n.toNat)
    · have hs := ends_six n.toNat (by omega) (bytesOf h) (bytesOf t) (by rw [bytesOf_length]; omega) (by rw [bytesOf_length]; omega) (by rw [bytesOf_length, bytesOf_length]; exact hc)
      rw [bytesOf_length, bytesOf_length] at hs
      have hB : Byt (bytesOf h ++ (bytesOf t).drop (h.size + t.size - n.toNat)) := (bo_byt h).append ((bo_byt t).drop _)
      simp only [if_pos hc, if_true]
      generalize bytesOf h ++ (bytesOf t).drop (h.size + t.size - n.toNat) = B at *
      rw [if_pos (by rw [sz_str]; omega), bo_str B hB, weldOf_eq B hB (by omega)]
      simp only [Option.bind_some, mOf, tl_beq, bo_str _ (hB.take 3), bo_str _ (hB.drop _)]
      rw [hs.1, hs.2.1, hs.2.2]
      congr 1
      have hnn : ((n.toNat : Nat) : Int) = n := by omega
      rw [hnn]
      rw [Bool.eq_iff_iff]
      simp
      exact fun _ _ _ => hc
    · simp only [if_neg hc, Bool.false_eq_true, if_false]
      rw [decide_eq_false hc, Bool.false_and]
  · rw [if_neg h6, if_neg h6]
    by_cases c1 : r ≥ 0
    · rw [if_pos c1]
      by_cases c2 : r ≤ n
      · rw [if_pos c2]
        by_cases c3 : u ≥ 0
        · rw [if_pos c3]
          by_cases c4 : u ≤ n
          · rw [if_pos c4, w64 (n := u - r) (by omega) (by omega), w64 (n := r - (u - r)) (by omega) (by omega), w64 (n := 4 * (u - r)) (by omega) (by omega), w64 (n := n - 4 * (u - r)) (by omega) (by omega), w64 (n := 3 * (r - (u - r))) (by omega) (by omega)]
            (repeat' split) <;> (congr 1; rw [Bool.eq_iff_iff]; simp only [decide_eq_true_eq, Bool.false_eq_true, false_iff]; omega)
          · rw [if_neg c4]; congr 1; symm; rw [decide_eq_false_iff_not]; omega
        · rw [if_neg c3]; congr 1; symm; rw [decide_eq_false_iff_not]; omega
      · rw [if_neg c2]; congr 1; symm; rw [decide_eq_false_iff_not]; omega
    · rw [if_neg c1]; congr 1; symm; rw [decide_eq_false_iff_not]; omega
theorem weldValid_eq (k : Nat) (n r u e : Int) (h t : ByteArray) (hr : -9223372036854775808 ≤ r ∧ r ≤ 9223372036854775807) (hu : -9223372036854775808 ≤ u ∧ u ≤ 9223372036854775807) :
    weld_Valid.f (k + 1) n r u e h t = some (vldB n r u e (bytesOf h) (bytesOf t)) := by
  have hF : ∀ x y z w, weld_Valid.j0 (k + 1) true n r u e h t x y z w = some false := fun x y z w => by simp [weld_Valid.j0]
  have hV : (n < 0 ∨ n > 268435456 ∨ (h.size : Int) ≠ min 3 n ∨ (t.size : Int) ≠ min 3 n) → vldB n r u e (bytesOf h) (bytesOf t) = false := fun c => by
    unfold vldB; rw [bytesOf_length, bytesOf_length, if_pos c]
  have hm : mn 3 n = min 3 n := by unfold mn; split <;> omega
  unfold weld_Valid.f
  rw [hm]
  by_cases h1 : n < 0
  · rw [if_pos h1, hF, hV (by omega)]
  · rw [if_neg h1]
    by_cases h2 : n > 268435456
    · rw [if_pos h2, hF, hV (by omega)]
    · rw [if_neg h2]
      by_cases h3 : (h.size : Int) = min 3 n
      · rw [if_pos h3]
        by_cases h4 : (t.size : Int) = min 3 n
        · rw [show ((t.size : Int) != min 3 n) = false by simp [h4]]
          exact weldValid_j0 k n r u e h t (by omega) h3 h4 hr hu
        · rw [show ((t.size : Int) != min 3 n) = true by simp [h4], hF, hV (by omega)]
      · rw [if_neg h3, hF, hV (by omega)]
end Go.Proofs.YteoonhidjldnfaaDoor.PuMs

namespace Go.Proofs.YteoonhidjldnfaaDoor.Pr
open Go.RowKit
set_option linter.unusedVariables false
set_option linter.unusedSimpArgs false
def clsN (b : Int) : Int := if b < 128 then 1 else if b < 192 then 2 else if b < 194 then 6 else if b < 224 then 3 else if b < 240 then 4 else if b < 245 then 5 else 6
def octet_Class.f (a0 : Int) : Option Int := if 0 ≤ a0 ∧ a0 ≤ 255 then some (clsN a0) else none
theorem ret_i64 {a b : Int} (h : a = b) : Ending.returned (.int .i64 a) = .returned (.int .i64 b) := by rw [h]
def lo : Nat → Int
  | 0 => 0 | 1 => 128 | 2 => 192 | 3 => 194 | 4 => 224 | 5 => 240 | 6 => 245 | _ => 256
set_option maxHeartbeats 8000000 in
set_option maxRecDepth 100000 in
theorem octet_Class.calls (a0 : Int) (r : Int) (w : World) (hG : Glob.Globs w) (h : octet_Class.f a0 = some r) :
    Calls Tryd.prog 60 #[.int .u8 a0] w fun e w' => e = .returned (.int .i64 r) ∧ Below w.heap.size w w' := by
  unfold octet_Class.f at h
  split at h
  · rename_i hr
    obtain ⟨h0, h1⟩ := hr
    obtain ⟨t0, f0, hs⟩ := hG.spans
    have HS := Lib.hid hs
    clear hs
    have hr := Option.some.inj h
    have HR := Lib.hid hr
    clear hr h
    go_enter Tryd.func60, Tryd.ntmps60
    go_wp2_with (refine wpList_load_row rfl 98 _ rfl 3 rfl t0 Glob.spansC f0 _ HS.out Tryd.underlying98 rfl (by kernel_rfl) ?_)
    have i0 : ∀ w, (Instr.index 98 (.agg Glob.spansC) (.int .i64 0)).run Tryd.prog w = .ok (.agg #[.int .i64 0, .int .i64 127, .int .i64 1]) w := fun _ => by kernel_rfl
    have i1 : ∀ w, (Instr.index 98 (.agg Glob.spansC) (.int .i64 1)).run Tryd.prog w = .ok (.agg #[.int .i64 128, .int .i64 191, .int .i64 2]) w := fun _ => by kernel_rfl
    have i2 : ∀ w, (Instr.index 98 (.agg Glob.spansC) (.int .i64 2)).run Tryd.prog w = .ok (.agg #[.int .i64 192, .int .i64 193, .int .i64 6]) w := fun _ => by kernel_rfl
    have i3 : ∀ w, (Instr.index 98 (.agg Glob.spansC) (.int .i64 3)).run Tryd.prog w = .ok (.agg #[.int .i64 194, .int .i64 223, .int .i64 3]) w := fun _ => by kernel_rfl
    have i4 : ∀ w, (Instr.index 98 (.agg Glob.spansC) (.int .i64 4)).run Tryd.prog w = .ok (.agg #[.int .i64 224, .int .i64 239, .int .i64 4]) w := fun _ => by kernel_rfl
    have i5 : ∀ w, (Instr.index 98 (.agg Glob.spansC) (.int .i64 5)).run Tryd.prog w = .ok (.agg #[.int .i64 240, .int .i64 244, .int .i64 5]) w := fun _ => by kernel_rfl
    have i6 : ∀ w, (Instr.index 98 (.agg Glob.spansC) (.int .i64 6)).run Tryd.prog w = .ok (.agg #[.int .i64 245, .int .i64 255, .int .i64 6]) w := fun _ => by kernel_rfl
    go_loopw [6] (fun i wr => ∃ k : Nat, k ≤ 6 ∧ i = .int .i64 k ∧ lo k ≤ a0 ∧ Below w.heap.size w wr) (fun i _ => 7 - (intOf i).toNat)
    case atStart => exact ⟨0, by omega, rfl, h0, Below.refl _ _⟩
    case round =>
      obtain ⟨k, hk, rfl, hlo, hB⟩ := hrel
      obtain ⟨k, rfl⟩ : ∃ k' : Nat, k' = k := ⟨k, rfl⟩
      have hcase : k = 0 ∨ k = 1 ∨ k = 2 ∨ k = 3 ∨ k = 4 ∨ k = 5 ∨ k = 6 := by omega
      rcases hcase with rfl | rfl | rfl | rfl | rfl | rfl | rfl
      · simp only [lo] at hlo
        by_cases hh : a0 ≤ 127
        · go_wp2
          go_ret
          exact ⟨ret_i64 (by rw [← HR.out]; unfold clsN; (repeat' split) <;> omega), by first | exact hB.alloc hB.size _ | exact (hB.alloc hB.size _).setCell (by simp; exact hB.size) _⟩
        · go_wp2
          go_roundw
          case rel => exact ⟨1, by omega, rfl, by simp only [lo]; omega, by first | exact hB.alloc hB.size _ | exact (hB.alloc hB.size _).setCell (by simp; exact hB.size) _⟩
          case measure => simp [intOf]
      · simp only [lo] at hlo
        by_cases hh : a0 ≤ 191
        · go_wp2
          go_ret
          exact ⟨ret_i64 (by rw [← HR.out]; unfold clsN; (repeat' split) <;> omega), by first | exact hB.alloc hB.size _ | exact (hB.alloc hB.size _).setCell (by simp; exact hB.size) _⟩
        · go_wp2
          go_roundw
          case rel => exact ⟨2, by omega, rfl, by simp only [lo]; omega, by first | exact hB.alloc hB.size _ | exact (hB.alloc hB.size _).setCell (by simp; exact hB.size) _⟩
          case measure => simp [intOf]
      · simp only [lo] at hlo
        by_cases hh : a0 ≤ 193
        · go_wp2
          go_ret
          exact ⟨ret_i64 (by rw [← HR.out]; unfold clsN; (repeat' split) <;> omega), by first | exact hB.alloc hB.size _ | exact (hB.alloc hB.size _).setCell (by simp; exact hB.size) _⟩
        · go_wp2
          go_roundw
          case rel => exact ⟨3, by omega, rfl, by simp only [lo]; omega, by first | exact hB.alloc hB.size _ | exact (hB.alloc hB.size _).setCell (by simp; exact hB.size) _⟩
          case measure => simp [intOf]
      · simp only [lo] at hlo
        by_cases hh : a0 ≤ 223
        · go_wp2
          go_ret
          exact ⟨ret_i64 (by rw [← HR.out]; unfold clsN; (repeat' split) <;> omega), by first | exact hB.alloc hB.size _ | exact (hB.alloc hB.size _).setCell (by simp; exact hB.size) _⟩
        · go_wp2
          go_roundw
          case rel => exact ⟨4, by omega, rfl, by simp only [lo]; omega, by first | exact hB.alloc hB.size _ | exact (hB.alloc hB.size _).setCell (by simp; exact hB.size) _⟩
          case measure => simp [intOf]
      · simp only [lo] at hlo
        by_cases hh : a0 ≤ 239
        · go_wp2
          go_ret
          exact ⟨ret_i64 (by rw [← HR.out]; unfold clsN; (repeat' split) <;> omega), by first | exact hB.alloc hB.size _ | exact (hB.alloc hB.size _).setCell (by simp; exact hB.size) _⟩
        · go_wp2
          go_roundw
          case rel => exact ⟨5, by omega, rfl, by simp only [lo]; omega, by first | exact hB.alloc hB.size _ | exact (hB.alloc hB.size _).setCell (by simp; exact hB.size) _⟩
          case measure => simp [intOf]
      · simp only [lo] at hlo
        by_cases hh : a0 ≤ 244
        · go_wp2
          go_ret
          exact ⟨ret_i64 (by rw [← HR.out]; unfold clsN; (repeat' split) <;> omega), by first | exact hB.alloc hB.size _ | exact (hB.alloc hB.size _).setCell (by simp; exact hB.size) _⟩
        · go_wp2
          go_roundw
          case rel => exact ⟨6, by omega, rfl, by simp only [lo]; omega, by first | exact hB.alloc hB.size _ | exact (hB.alloc hB.size _).setCell (by simp; exact hB.size) _⟩
          case measure => simp [intOf]
      · simp only [lo] at hlo
        by_cases hh : a0 ≤ 255
        · go_wp2
          go_ret
          exact ⟨ret_i64 (by rw [← HR.out]; unfold clsN; (repeat' split) <;> omega), by first | exact hB.alloc hB.size _ | exact (hB.alloc hB.size _).setCell (by simp; exact hB.size) _⟩
        · omega
  · cases h
end Go.Proofs.YteoonhidjldnfaaDoor.Pr

namespace Go.Proofs.YteoonhidjldnfaaDoor.Pr
open Go.RowKit
set_option linter.unusedVariables false
set_option linter.unusedSimpArgs false
def needN (b : Int) : Int := if b < 128 then 1 else if b < 194 then 0 else if b < 224 then 2 else if b < 240 then 3 else if b < 245 then 4 else 0
def octet_Need.f (a0 : Int) : Option Int := if 0 ≤ a0 ∧ a0 ≤ 255 then some (needN a0) else none
set_option maxHeartbeats 8000000 in
set_option maxRecDepth 100000 in
theorem octet_Need.calls (a0 : Int) (r : Int) (w : World) (hG : Glob.Globs w) (h : octet_Need.f a0 = some r) :
    Calls Tryd.prog 59 #[.int .u8 a0] w fun e w' => e = .returned (.int .i64 r) ∧ Below w.heap.size w w' := by
  unfold octet_Need.f at h
  split at h
  · rename_i hr
    obtain ⟨h0, h1⟩ := hr
    have hr := Option.some.inj h
    have HR := Lib.hid hr
    have HG := Lib.hid hG
    clear hr h hG
    have hc : octet_Class.f a0 = some (clsN a0) := by unfold octet_Class.f; rw [if_pos ⟨h0, h1⟩]
    have HC := Lib.hid hc
    clear hc
    have hcell : ∀ w1 : World, Below w.heap.size w w1 → w1.cell? ⟨2, (clsN a0).toNat, none⟩ = some (.int .i64 (needN a0)) := by
      intro w1 hb
      have hG1 := Glob.Globs_below HG.out hb
      rw [hG1.needs_cell]
      unfold clsN needN; (repeat' split) <;> first | rfl | omega
    have HL := Lib.hid hcell
    clear hcell
    have hcr : 0 ≤ clsN a0 ∧ clsN a0 < 7 := by unfold clsN; (repeat' split) <;> omega
    obtain ⟨hc0, hc7⟩ := hcr
    go_enter Tryd.func59, Tryd.ntmps59
    go_wp2_with (go_at_call 60; refine (octet_Class.calls a0 (clsN a0) _ HG.out HC.out).mono ?_; rintro e w1 ⟨rfl, hb⟩; have hl := HL.out w1 hb)
    go_ret
    exact ⟨ret_i64 (HR.out), hb⟩
  · cases h
end Go.Proofs.YteoonhidjldnfaaDoor.Pr

namespace Go.Proofs.YteoonhidjldnfaaDoor.Pr
open Go.RowKit Go.Proofs.YteoonhidjldnfaaDoorW.PrintWords Go.Proofs.YteoonhidjldnfaaDoorW.PrintLast Go.Proofs.YteoonhidjldnfaaDoorW.PrintMore
attribute [local go_sem] max2_int min2_int max_two min_two max_three min_three max_four min_four   -- for this text's walks alone
set_option linter.unusedVariables false
set_option linter.unusedSimpArgs false
def octet_second.f (a0 : Int) : Option (Int × Int) := if a0 = 224 then (some (160, 191)) else (if a0 = 237 then (some (128, 159)) else (if a0 = 240 then (some (144, 191)) else (if a0 = 244 then (some (128, 143)) else ((octet_Need.f a0).bind fun t234 => (if t234 > 1 then (some (128, 191)) else (some (1, 0)))))))
set_option maxHeartbeats 8000000 in
set_option maxRecDepth 100000 in
theorem octet_second.calls (a0 : Int) (r1 : Int) (r2 : Int) (w : World) (hG : Glob.Globs w) (h : octet_second.f a0 = some (r1, r2)) :
  Calls Tryd.prog 62 #[.int .u8 a0] w fun e w' => e = .returned (.tuple #[.int .u8 r1, .int .u8 r2]) ∧ Below w.heap.size w w' := by
 have HG := Aside0.mk hG; clear hG
 have HB := Aside0.mk (Below.refl w.heap.size w)
 have H : (if a0 = 224 then (some (160, 191)) else (if a0 = 237 then (some (128, 159)) else (if a0 = 240 then (some (144, 191)) else (if a0 = 244 then (some (128, 143)) else ((octet_Need.f a0).bind fun t234 => (if t234 > 1 then (some (128, 191)) else (some (1, 0)))))))) = some (r1, r2) := h
 clear h
 by_cases c2 : a0 = 224
 ·rw [if_pos c2] at H
  have c2b0 : (a0 == 224) = true := beq_iff_eq.mpr c2
  have c2b1 : (a0 != 224) = false := bne_eq_false_iff_eq.mpr c2
  clear c2
  simp only [Option.some.injEq, Prod.mk.injEq] at H
  obtain ⟨rfl, rfl⟩ := H
  go_enter Tryd.func62, Tryd.ntmps62
  go_wp2
  go_ret2
  exact ⟨by first | rfl | (simp [errW_none, errW_some] <;> rfl) | (simp [*, errW_none, errW_some] <;> rfl), bl HB.out⟩
 ·rw [if_neg c2] at H
  have c2b0 : (a0 == 224) = false := beq_eq_false_iff_ne.mpr c2
  have c2b1 : (a0 != 224) = true := bne_iff_ne.mpr c2
  by_cases c3 : a0 = 237
  ·rw [if_pos c3] at H
   have c3b0 : (a0 == 237) = true := beq_iff_eq.mpr c3
   have c3b1 : (a0 != 237) = false := bne_eq_false_iff_eq.mpr c3
   clear c3
   simp only [Option.some.injEq, Prod.mk.injEq] at H
   obtain ⟨rfl, rfl⟩ := H
   go_enter Tryd.func62, Tryd.ntmps62
   go_wp2
   go_ret2
   exact ⟨by first | rfl | (simp [errW_none, errW_some] <;> rfl) | (simp [*, errW_none, errW_some] <;> rfl), bl HB.out⟩
  ·rw [if_neg c3] at H
   have c3b0 : (a0 == 237) = false := beq_eq_false_iff_ne.mpr c3
   have c3b1 : (a0 != 237) = true := bne_iff_ne.mpr c3
   by_cases c4 : a0 = 240
   ·rw [if_pos c4] at H
    have c4b0 : (a0 == 240) = true := beq_iff_eq.mpr c4
    have c4b1 : (a0 != 240) = false := bne_eq_false_iff_eq.mpr c4
    clear c4
    simp only [Option.some.injEq, Prod.mk.injEq] at H
    obtain ⟨rfl, rfl⟩ := H
    go_enter Tryd.func62, Tryd.ntmps62
    go_wp2
    go_ret2
    exact ⟨by first | rfl | (simp [errW_none, errW_some] <;> rfl) | (simp [*, errW_none, errW_some] <;> rfl), bl HB.out⟩
   ·rw [if_neg c4] at H
    have c4b0 : (a0 == 240) = false := beq_eq_false_iff_ne.mpr c4
    have c4b1 : (a0 != 240) = true := bne_iff_ne.mpr c4
    by_cases c5 : a0 = 244
    ·rw [if_pos c5] at H
     have c5b0 : (a0 == 244) = true := beq_iff_eq.mpr c5
     have c5b1 : (a0 != 244) = false := bne_eq_false_iff_eq.mpr c5
     clear c5
     simp only [Option.some.injEq, Prod.mk.injEq] at H
     obtain ⟨rfl, rfl⟩ := H
     go_enter Tryd.func62, Tryd.ntmps62
     go_wp2
     go_ret2
     exact ⟨by first | rfl | (simp [errW_none, errW_some] <;> rfl) | (simp [*, errW_none, errW_some] <;> rfl), bl HB.out⟩
    ·rw [if_neg c5] at H
     have c5b0 : (a0 == 244) = false := beq_eq_false_iff_ne.mpr c5
     have c5b1 : (a0 != 244) = true := bne_iff_ne.mpr c5
     replace H := Option.bind_eq_some_iff.mp H
     obtain ⟨t234, A60, H⟩ := H
     have A6 := Aside0.mk A60; clear A60
     by_cases c7 : t234 > 1
     ·rw [if_pos c7] at H
      have c7b0 : decide (1 < t234) = true := decide_eq_true c7
      clear c7
      simp only [Option.some.injEq, Prod.mk.injEq] at H
      obtain ⟨rfl, rfl⟩ := H
      go_enter Tryd.func62, Tryd.ntmps62
      go_wp2_with (first | ((with_reducible refine gate_callee (f := 59) rfl ?_); refine goesL_ (some 14) rfl rfl Tryd.func59 (by kernel_rfl) rfl #[.int .u8 a0] rfl (by (try simp only [List.map_toArray, List.map_cons, List.map_nil]); first | done | rfl | (simp only [List.length_drop, List.length_take]; rfl)) ?_; (with_reducible refine (octet_Need.calls a0 t234 _ ?side1 A6.out).mono ?_); (case side1 => first | (with_reducible exact HG.out) | exact Glob.Globs_below HG.out (bl HB.out)); rintro e w8 ⟨rfl, hb⟩; refine ⟨_, rfl, ?_⟩; have n0_ := Aside0.mk (below_step (bl HB.out) hb); clear HB; have HB := n0_; clear n0_; (try clear hb); (try clear hb2); (try clear hk); (try clear hi)))
      go_ret2
      exact ⟨by first | rfl | (simp [errW_none, errW_some] <;> rfl) | (simp [*, errW_none, errW_some] <;> rfl), bl HB.out⟩
     ·rw [if_neg c7] at H
      have c7b0 : decide (1 < t234) = false := decide_eq_false c7
      clear c7
      simp only [Option.some.injEq, Prod.mk.injEq] at H
      obtain ⟨rfl, rfl⟩ := H
      go_enter Tryd.func62, Tryd.ntmps62
      go_wp2_with (first | ((with_reducible refine gate_callee (f := 59) rfl ?_); refine goesL_ (some 14) rfl rfl Tryd.func59 (by kernel_rfl) rfl #[.int .u8 a0] rfl (by (try simp only [List.map_toArray, List.map_cons, List.map_nil]); first | done | rfl | (simp only [List.length_drop, List.length_take]; rfl)) ?_; (with_reducible refine (octet_Need.calls a0 t234 _ ?side1 A6.out).mono ?_); (case side1 => first | (with_reducible exact HG.out) | exact Glob.Globs_below HG.out (bl HB.out)); rintro e w9 ⟨rfl, hb⟩; refine ⟨_, rfl, ?_⟩; have n0_ := Aside0.mk (below_step (bl HB.out) hb); clear HB; have HB := n0_; clear n0_; (try clear hb); (try clear hb2); (try clear hk); (try clear hi)))
      go_ret2
      exact ⟨by first | rfl | (simp [errW_none, errW_some] <;> rfl) | (simp [*, errW_none, errW_some] <;> rfl), bl HB.out⟩
def octet_Second.f (a0 : Int) (a1 : Int) : Option (Bool) := (octet_second.f a0).bind fun bt235 => (if a1 ≥ bt235.1 then (some (decide (a1 ≤ bt235.2))) else (some false))
set_option maxHeartbeats 8000000 in
set_option maxRecDepth 100000 in
theorem octet_Second.calls (a0 : Int) (a1 : Int) (r : Bool) (w : World) (hG : Glob.Globs w) (h : octet_Second.f a0 a1 = some r) :
  Calls Tryd.prog 61 #[.int .u8 a0, .int .u8 a1] w fun e w' => e = .returned (.bool r) ∧ Below w.heap.size w w' := by
 have HG := Aside0.mk hG; clear hG
 have HB := Aside0.mk (Below.refl w.heap.size w)
 have H : ((octet_second.f a0).bind fun bt235 => (if a1 ≥ bt235.1 then (some (decide (a1 ≤ bt235.2))) else (some false))) = some r := h
 clear h
 replace H := Option.bind_eq_some_iff.mp H
 obtain ⟨⟨t235, t236⟩, A30, H⟩ := H
 have A3 := Aside0.mk A30; clear A30
 by_cases c4 : a1 ≥ t235
 ·rw [if_pos c4] at H
  have c4b0 : decide (t235 ≤ a1) = true := decide_eq_true c4
  clear c4
  obtain rfl := Option.some.inj H
  go_enter Tryd.func61, Tryd.ntmps61
  go_wp2_with (first | ((with_reducible refine gate_callee (f := 62) rfl ?_); refine goesL_ (some 9) rfl rfl Tryd.func62 (by kernel_rfl) rfl #[.int .u8 a0] rfl (by (try simp only [List.map_toArray, List.map_cons, List.map_nil]); first | done | rfl | (simp only [List.length_drop, List.length_take]; rfl)) ?_; (with_reducible refine (octet_second.calls a0 t235 t236 _ ?side1 A3.out).mono ?_); (case side1 => first | (with_reducible exact HG.out) | exact Glob.Globs_below HG.out (bl HB.out)); rintro e w5 ⟨rfl, hb⟩; refine ⟨_, rfl, ?_⟩; have n0_ := Aside0.mk (below_step (bl HB.out) hb); clear HB; have HB := n0_; clear n0_; (try clear hb); (try clear hb2); (try clear hk); (try clear hi)))
  go_ret
  exact ⟨by first | rfl | (simp [errW_none, errW_some] <;> rfl) | (simp [*, errW_none, errW_some] <;> rfl), bl HB.out⟩
 ·rw [if_neg c4] at H
  have c4b0 : decide (t235 ≤ a1) = false := decide_eq_false c4
  clear c4
  obtain rfl := Option.some.inj H
  go_enter Tryd.func61, Tryd.ntmps61
  go_wp2_with (first | ((with_reducible refine gate_callee (f := 62) rfl ?_); refine goesL_ (some 9) rfl rfl Tryd.func62 (by kernel_rfl) rfl #[.int .u8 a0] rfl (by (try simp only [List.map_toArray, List.map_cons, List.map_nil]); first | done | rfl | (simp only [List.length_drop, List.length_take]; rfl)) ?_; (with_reducible refine (octet_second.calls a0 t235 t236 _ ?side1 A3.out).mono ?_); (case side1 => first | (with_reducible exact HG.out) | exact Glob.Globs_below HG.out (bl HB.out)); rintro e w6 ⟨rfl, hb⟩; refine ⟨_, rfl, ?_⟩; have n0_ := Aside0.mk (below_step (bl HB.out) hb); clear HB; have HB := n0_; clear n0_; (try clear hb); (try clear hb2); (try clear hk); (try clear hi)))
  go_ret
  exact ⟨by first | rfl | (simp [errW_none, errW_some] <;> rfl) | (simp [*, errW_none, errW_some] <;> rfl), bl HB.out⟩
mutual
def octet_Whole.j0 : Nat → List Int → Bool → Option (Bool)
 | 0, _, _ => none
 | k + 1, x0, x16 => if x16 = true then (some false) else (if 1 ≤ (x0.length : Int) then (octet_Whole.l0 k x0 (drop1 x0) ((drop1 x0).length : Int) 0) else (none))
def octet_Whole.l0 : Nat → List Int → List Int → Int → Int → Option (Bool)
 | 0, _, _, _, _ => none
 | k + 1, x0, x18, x19, x20 => if x20 < x19 then (if 0 ≤ x20 then (if x20 < (x18.length : Int) then ((octet_Class.f (rd x18 x20)).bind fun t241 => (if t241 = 2 then (if x20 = 0 then (if 0 < (x0.length : Int) then ((octet_Second.f (rd x0 0) (rd x18 x20)).bind fun t243 => (if t243 = true then (octet_Whole.l0 k x0 x18 x19 (wrap64 (x20 + 1))) else (some false))) else (none)) else (octet_Whole.l0 k x0 x18 x19 (wrap64 (x20 + 1)))) else (some false))) else (none)) else (none)) else (some true)
end
def octet_Whole.f (k : Nat) (l0 : List Int) : Option (Bool) := if (l0.length : Int) = 0 then (octet_Whole.j0 k l0 true) else (if 0 < (l0.length : Int) then ((octet_Need.f (rd l0 0)).bind fun t238 => (octet_Whole.j0 k l0 (t238 != (l0.length : Int)))) else (none))
set_option maxHeartbeats 8000000 in
set_option maxRecDepth 100000 in
theorem octet_Whole.calls (k : Nat) (A0 : Option Addr) (c0 : Nat) (l0 : List Int) (r : Bool) (w : World) (hG : Glob.Globs w) (hr0 : Kd.C (Kd.int .u8) w A0 l0.length l0) (hc0 : l0.length ≤ c0) (h : octet_Whole.f k l0 = some r) :
  Calls Tryd.prog 57 #[.slice A0 l0.length c0] w fun e w' => e = .returned (.bool r) ∧ Below w.heap.size w w' := by
 have HG := Aside0.mk hG; clear hG; have HR0 := Aside0.mk hr0; have HC0 := Aside0.mk hc0; clear hr0 hc0
 have HB := Aside0.mk (Below.refl w.heap.size w)
 have H : (if (l0.length : Int) = 0 then (octet_Whole.j0 k l0 true) else (if 0 < (l0.length : Int) then ((octet_Need.f (rd l0 0)).bind fun t238 => (octet_Whole.j0 k l0 (t238 != (l0.length : Int)))) else (none))) = some r := h
 clear h; have HC2 := Aside0.mk H; clear H
 go_enter Tryd.func57, Tryd.ntmps57
 go_upto_region 1 with (fail)
 go_cut [16] (fun v16 wc => ∃ (kq : Nat) (x16_1 : Bool), v16 = .bool x16_1 ∧ Aside0 (octet_Whole.j0 kq l0 x16_1 = some r) ∧ Aside0 (kq ≤ k) ∧ Aside0 (Below w.heap.size w wc))
 case first =>
  have H := HC2.out; clear HC2
  by_cases c3 : (l0.length : Int) = 0
  ·rw [if_pos c3] at H
   have c3b0 : ((l0.length : Int) == 0) = true := beq_iff_eq.mpr c3
   have c3b1 : ((l0.length : Int) != 0) = false := bne_eq_false_iff_eq.mpr c3
   clear c3
   (first | rw [c3b0] | (simp only [i64_w, i32_w]; rw [c3b0]) | skip)
   have H' := Aside0.mk H; clear H
   go_wp2
   go_meet
   case rel => exact ⟨_, (true), (by first | rfl | (simp; done) | (simp [*]; done)), H', ⟨by first | omega | exact Nat.le_refl _⟩, ⟨bl HB.out⟩⟩
  ·rw [if_neg c3] at H
   have c3b0 : ((l0.length : Int) == 0) = false := beq_eq_false_iff_ne.mpr c3
   have c3b1 : ((l0.length : Int) != 0) = true := bne_iff_ne.mpr c3
   have c3b2 : ¬ (l0 = []) := fun h_ => c3 (by rw [h_]; rfl)
   (first | rw [c3b0] | (simp only [i64_w, i32_w]; rw [c3b0]) | skip)
   by_cases c4 : 0 < (l0.length : Int)
   ·rw [if_pos c4] at H
    have c4b0 : decide (0 < (l0.length : Int)) = true := decide_eq_true c4
    have c4b1 : decide (0 < l0.length) = true := decide_eq_true (by omega)
    clear c4
    replace H := Option.bind_eq_some_iff.mp H
    obtain ⟨t238, A50, H⟩ := H
    have A5 := Aside0.mk A50; clear A50; have H' := Aside0.mk H; clear H
    have p237 : 0 ≤ (0 : Int) := (by omega)
    have q237 : 0 < (l0.length : Int) := of_decide_eq_true (by first | (with_reducible assumption) | assumption)
    obtain ⟨ad237, e237, hx237_0⟩ := Kd.at_int HR0.out 0 p237 q237
    cases e237
    have qi237 : (0 < l0.length) = True := eq_true (by omega)
    (try rw [show ((0 : Int)).toNat = 0 from rfl] at hx237_0)
    (try rw [Addr.add_zero'] at hx237_0)
    replace hx237_0 := (HB.out.cell (World.block_lt_of_cell? w _ hx237_0)).trans hx237_0
    replace p237 := eq_true p237
    replace q237 := eq_true q237
    go_wp2_with (first | (go_at_call 59; (with_reducible refine (octet_Need.calls (rd l0 0) t238 _ ?side1 A5.out).mono ?_); (case side1 => first | (with_reducible exact HG.out) | exact Glob.Globs_below HG.out (bl HB.out)); rintro e w6 ⟨rfl, hb⟩; have n0_ := Aside0.mk (below_step (bl HB.out) hb); clear HB; have HB := n0_; clear n0_; (try clear hb); (try clear hb2); (try clear hk); (try clear hi)))
    go_meet
    case rel => exact ⟨_, ((t238 != (l0.length : Int))), (by first | rfl | (simp; done) | (simp [*]; done)), H', ⟨by first | omega | exact Nat.le_refl _⟩, ⟨bl HB.out⟩⟩
   ·rw [if_neg c4] at H
    exact absurd H (by simp)
 case rest =>
  clear HC2; (try clear p2); (try clear q2); (try clear hx2); (try clear qi2); (try clear c3); (try clear c3b0); (try clear c3b1); (try clear c3b2); (try clear c4); (try clear c4b0); (try clear c4b1); (try clear c5); (try clear hx237_0); (try clear p237); (try clear q237)
  obtain ⟨kq, x16_1, rfl, HA, HJ1, HB⟩ := hcut
  cases kq with
  | zero => exact absurd HA.out (by simp [octet_Whole.j0])
  | succ kj1 =>
   have H := HA.out; clear HA
   simp only [octet_Whole.j0] at H
   by_cases c7 : x16_1 = true
   ·subst c7
    have H1 := H; rw [if_pos rfl] at H1
    clear H; have H := H1; clear H1
    obtain rfl := Option.some.inj H
    go_wp2
    go_ret
    exact ⟨by first | rfl | (simp [errW_none, errW_some] <;> rfl) | (simp [*, errW_none, errW_some] <;> rfl), bl HB.out⟩
   ·replace c7 := Bool.eq_false_iff.mpr c7
    subst c7
    have H1 := H; rw [if_neg (show ¬ (false = true) by decide)] at H1
    clear H; have H := H1; clear H1
    by_cases c8 : 1 ≤ (l0.length : Int)
    ·rw [if_pos c8] at H
     have c8b0 := eq_true c8
     have c8b1 : decide (1 ≤ (l0.length : Int)) = true := decide_eq_true c8
     clear c8; have H' := Aside0.mk H; clear H
     obtain ⟨i09, hi09, _, hsz9, _⟩ := info_parts info5
     obtain ⟨A9, hcut9, hA9, hC9⟩ := print_drop_of (P := Tryd.prog) (Value.int .u8) 0 26 5 .i64 Tryd.underlying26 hi09 hsz9 A0 c0 l0 1 (by omega) (of_decide_eq_true (by first | (with_reducible assumption) | assumption)) HC0.out
     have HR239 := Aside0.mk (show Kd.C _ _ _ _ (drop1 l0) from (Kd.C_of_reads (h1 := fun _ => rfl) (hA9 _ (Kd.reads_of_C HR0.out))))
     have HC239 := Aside0.mk hC9; clear hA9 hC9 hi09 hsz9
     go_wp2
     go_loopg [20] kj1 (fun kq v20 w' => ∃ (x20_2 : Int), v20 = .int .i64 x20_2 ∧ Aside0 (octet_Whole.l0 kq l0 (drop1 l0) ((drop1 l0).length : Int) x20_2 = some r) ∧ Aside0 (kq ≤ kj1) ∧ Aside0 (Below w.heap.size w w'))
     case atStart => exact ⟨(0), (by first | rfl | (simp; done) | (simp [*]; done)), H', ⟨Nat.le_refl _⟩, ⟨bl HB.out⟩⟩
     case round =>
      clear H'
      (try clear p2); (try clear q2); (try clear hx2); (try clear qi2); (try clear c3); (try clear c3b0); (try clear c3b1); (try clear c3b2); (try clear c4); (try clear c4b0); (try clear c4b1); (try clear c5); (try clear c7); (try clear c8); (try clear c8b0); (try clear c8b1); (try clear hx237_0); (try clear p2); (try clear p237); (try clear q2); (try clear q237)
      obtain ⟨x20_2, rfl, HA, HK2, HB⟩ := hrel
      cases gk with
      | zero => exact absurd HA.out (by simp [octet_Whole.l0])
      | succ k2 =>
       have H := HA.out; clear HA
       simp only [octet_Whole.l0] at H
       by_cases c10 : x20_2 < ((drop1 l0).length : Int)
       ·rw [if_pos c10] at H
        have c10b0 : decide (x20_2 < ((l0.drop 1).length : Int)) = true := decide_eq_true c10
        have c10b0n : decide (x20_2 < ((l0.length - 1 : Nat) : Int)) = true := by have z_ := c10b0; rwa [List.length_drop] at z_
        clear c10
        by_cases c11 : 0 ≤ x20_2
        ·rw [if_pos c11] at H
         have c11b0 : decide (0 ≤ x20_2) = true := decide_eq_true c11
         clear c11
         by_cases c12 : x20_2 < ((drop1 l0).length : Int)
         ·rw [if_pos c12] at H
          have c12b0 : decide (x20_2 < ((l0.drop 1).length : Int)) = true := decide_eq_true c12
          have c12b0n : decide (x20_2 < ((l0.length - 1 : Nat) : Int)) = true := by have z_ := c12b0; rwa [List.length_drop] at z_
          clear c12
          replace H := Option.bind_eq_some_iff.mp H
          obtain ⟨t241, A130, H⟩ := H
          have A13 := Aside0.mk A130; clear A130
          by_cases c14 : t241 = 2
          ·rw [if_pos c14] at H
           have c14b0 : (t241 == 2) = true := beq_iff_eq.mpr c14
           have c14b1 : (t241 != 2) = false := bne_eq_false_iff_eq.mpr c14
           clear c14
           by_cases c15 : x20_2 = 0
           ·rw [if_pos c15] at H
            have c15b0 : (x20_2 == 0) = true := beq_iff_eq.mpr c15
            have c15b1 : (x20_2 != 0) = false := bne_eq_false_iff_eq.mpr c15
            clear c15
            by_cases c16 : 0 < (l0.length : Int)
            ·rw [if_pos c16] at H
             have c16b0 : decide (0 < (l0.length : Int)) = true := decide_eq_true c16
             have c16b1 : decide (0 < l0.length) = true := decide_eq_true (by omega)
             clear c16
             replace H := Option.bind_eq_some_iff.mp H
             obtain ⟨t243, A170, H⟩ := H
             have A17 := Aside0.mk A170; clear A170
             by_cases c18 : t243 = true
             ·subst c18
              have H1 := H; rw [if_pos rfl] at H1
              clear H; have H := H1; clear H1; have H' := Aside0.mk H; clear H
              have p240 : 0 ≤ (x20_2 : Int) := of_decide_eq_true (by first | (with_reducible assumption) | assumption)
              have q240 : x20_2 < ((l0.drop 1).length : Int) := of_decide_eq_true (by first | (with_reducible assumption) | assumption)
              obtain ⟨ad240, e240, hx240_0⟩ := Kd.at_int HR239.out x20_2 p240 q240
              cases e240
              replace hx240_0 := (HB.out.cell (World.block_lt_of_cell? w _ hx240_0)).trans hx240_0
              replace p240 := eq_true p240
              replace q240 := eq_true q240; have q240n : (x20_2 < ((l0.length - 1 : Nat) : Int)) = True := by have z_ := q240; rwa [List.length_drop] at z_
              go_wp2_with (first | ((with_reducible refine gate_callee (f := 60) rfl ?_); refine goesL_ (some 26) rfl rfl Tryd.func60 (by kernel_rfl) rfl #[.int .u8 (rd (drop1 l0) x20_2)] rfl (by (try simp only [List.map_toArray, List.map_cons, List.map_nil]); first | done | rfl | (simp only [List.length_drop, List.length_take]; rfl)) ?_; (with_reducible refine (octet_Class.calls (rd (drop1 l0) x20_2) t241 _ ?side1 A13.out).mono ?_); (case side1 => first | (with_reducible exact HG.out) | exact Glob.Globs_below HG.out (bl HB.out)); rintro e w19 ⟨rfl, hb⟩; refine ⟨_, rfl, ?_⟩; have n0_ := Aside0.mk (below_step (bl HB.out) hb); clear HB; have HB := n0_; clear n0_; (try clear hb); (try clear hb2); (try clear hk); (try clear hi); have p242 : 0 ≤ (0 : Int) := (by omega); have q242 : 0 < (l0.length : Int) := of_decide_eq_true (by first | (with_reducible assumption) | assumption); obtain ⟨ad242, e242, hx242_0⟩ := Kd.at_int HR0.out 0 p242 q242; cases e242; have qi242 : (0 < l0.length) = True := eq_true (by omega); (try rw [show ((0 : Int)).toNat = 0 from rfl] at hx242_0); (try rw [Addr.add_zero'] at hx242_0); replace hx242_0 := (HB.out.cell (World.block_lt_of_cell? w _ hx242_0)).trans hx242_0; replace p242 := eq_true p242; replace q242 := eq_true q242) | (go_at_call 61; (with_reducible refine (octet_Second.calls (rd l0 0) (rd (drop1 l0) x20_2) true _ ?side1 A17.out).mono ?_); (case side1 => first | (with_reducible exact HG.out) | exact Glob.Globs_below HG.out (bl HB.out)); rintro e w20 ⟨rfl, hb⟩; have n0_ := Aside0.mk (below_step (bl HB.out) hb); clear HB; have HB := n0_; clear n0_; (try clear hb); (try clear hb2); (try clear hk); (try clear hi)))
              go_roundg k2
              case measure => have := HJ1.out; have := HK2.out; omega
              case rel => exact ⟨(wrap64 (x20_2 + 1)), (by first | rfl | (simp; done) | (simp [*]; done)), H', ⟨by have := HJ1.out; have := HK2.out; omega⟩, ⟨bl HB.out⟩⟩
             ·replace c18 := Bool.eq_false_iff.mpr c18
              subst c18
              have H1 := H; rw [if_neg (show ¬ (false = true) by decide)] at H1
              clear H; have H := H1; clear H1
              obtain rfl := Option.some.inj H
              have p240 : 0 ≤ (x20_2 : Int) := of_decide_eq_true (by first | (with_reducible assumption) | assumption)
              have q240 : x20_2 < ((l0.drop 1).length : Int) := of_decide_eq_true (by first | (with_reducible assumption) | assumption)
              obtain ⟨ad240, e240, hx240_0⟩ := Kd.at_int HR239.out x20_2 p240 q240
              cases e240
              replace hx240_0 := (HB.out.cell (World.block_lt_of_cell? w _ hx240_0)).trans hx240_0
              replace p240 := eq_true p240
              replace q240 := eq_true q240; have q240n : (x20_2 < ((l0.length - 1 : Nat) : Int)) = True := by have z_ := q240; rwa [List.length_drop] at z_
              go_wp2_with (first | ((with_reducible refine gate_callee (f := 60) rfl ?_); refine goesL_ (some 26) rfl rfl Tryd.func60 (by kernel_rfl) rfl #[.int .u8 (rd (drop1 l0) x20_2)] rfl (by (try simp only [List.map_toArray, List.map_cons, List.map_nil]); first | done | rfl | (simp only [List.length_drop, List.length_take]; rfl)) ?_; (with_reducible refine (octet_Class.calls (rd (drop1 l0) x20_2) t241 _ ?side1 A13.out).mono ?_); (case side1 => first | (with_reducible exact HG.out) | exact Glob.Globs_below HG.out (bl HB.out)); rintro e w21 ⟨rfl, hb⟩; refine ⟨_, rfl, ?_⟩; have n0_ := Aside0.mk (below_step (bl HB.out) hb); clear HB; have HB := n0_; clear n0_; (try clear hb); (try clear hb2); (try clear hk); (try clear hi); have p242 : 0 ≤ (0 : Int) := (by omega); have q242 : 0 < (l0.length : Int) := of_decide_eq_true (by first | (with_reducible assumption) | assumption); obtain ⟨ad242, e242, hx242_0⟩ := Kd.at_int HR0.out 0 p242 q242; cases e242; have qi242 : (0 < l0.length) = True := eq_true (by omega); (try rw [show ((0 : Int)).toNat = 0 from rfl] at hx242_0); (try rw [Addr.add_zero'] at hx242_0); replace hx242_0 := (HB.out.cell (World.block_lt_of_cell? w _ hx242_0)).trans hx242_0; replace p242 := eq_true p242; replace q242 := eq_true q242) | (go_at_call 61; (with_reducible refine (octet_Second.calls (rd l0 0) (rd (drop1 l0) x20_2) false _ ?side1 A17.out).mono ?_); (case side1 => first | (with_reducible exact HG.out) | exact Glob.Globs_below HG.out (bl HB.out)); rintro e w22 ⟨rfl, hb⟩; have n0_ := Aside0.mk (below_step (bl HB.out) hb); clear HB; have HB := n0_; clear n0_; (try clear hb); (try clear hb2); (try clear hk); (try clear hi)))
              go_ret
              exact ⟨by first | rfl | (simp [errW_none, errW_some] <;> rfl) | (simp [*, errW_none, errW_some] <;> rfl), bl HB.out⟩
            ·rw [if_neg c16] at H
             exact absurd H (by simp)
           ·rw [if_neg c15] at H
            have c15b0 : (x20_2 == 0) = false := beq_eq_false_iff_ne.mpr c15
            have c15b1 : (x20_2 != 0) = true := bne_iff_ne.mpr c15
            have H' := Aside0.mk H; clear H
            have p240 : 0 ≤ (x20_2 : Int) := of_decide_eq_true (by first | (with_reducible assumption) | assumption)
            have q240 : x20_2 < ((l0.drop 1).length : Int) := of_decide_eq_true (by first | (with_reducible assumption) | assumption)
            obtain ⟨ad240, e240, hx240_0⟩ := Kd.at_int HR239.out x20_2 p240 q240
            cases e240
            replace hx240_0 := (HB.out.cell (World.block_lt_of_cell? w _ hx240_0)).trans hx240_0
            replace p240 := eq_true p240
            replace q240 := eq_true q240; have q240n : (x20_2 < ((l0.length - 1 : Nat) : Int)) = True := by have z_ := q240; rwa [List.length_drop] at z_
            go_wp2_with (first | ((with_reducible refine gate_callee (f := 60) rfl ?_); refine goesL_ (some 26) rfl rfl Tryd.func60 (by kernel_rfl) rfl #[.int .u8 (rd (drop1 l0) x20_2)] rfl (by (try simp only [List.map_toArray, List.map_cons, List.map_nil]); first | done | rfl | (simp only [List.length_drop, List.length_take]; rfl)) ?_; (with_reducible refine (octet_Class.calls (rd (drop1 l0) x20_2) t241 _ ?side1 A13.out).mono ?_); (case side1 => first | (with_reducible exact HG.out) | exact Glob.Globs_below HG.out (bl HB.out)); rintro e w23 ⟨rfl, hb⟩; refine ⟨_, rfl, ?_⟩; have n0_ := Aside0.mk (below_step (bl HB.out) hb); clear HB; have HB := n0_; clear n0_; (try clear hb); (try clear hb2); (try clear hk); (try clear hi)))
            go_roundg k2
            case measure => have := HJ1.out; have := HK2.out; omega
            case rel => exact ⟨(wrap64 (x20_2 + 1)), (by first | rfl | (simp; done) | (simp [*]; done)), H', ⟨by have := HJ1.out; have := HK2.out; omega⟩, ⟨bl HB.out⟩⟩
          ·rw [if_neg c14] at H
           have c14b0 : (t241 == 2) = false := beq_eq_false_iff_ne.mpr c14
           have c14b1 : (t241 != 2) = true := bne_iff_ne.mpr c14
           obtain rfl := Option.some.inj H
           have p240 : 0 ≤ (x20_2 : Int) := of_decide_eq_true (by first | (with_reducible assumption) | assumption)
           have q240 : x20_2 < ((l0.drop 1).length : Int) := of_decide_eq_true (by first | (with_reducible assumption) | assumption)
           obtain ⟨ad240, e240, hx240_0⟩ := Kd.at_int HR239.out x20_2 p240 q240
           cases e240
           replace hx240_0 := (HB.out.cell (World.block_lt_of_cell? w _ hx240_0)).trans hx240_0
           replace p240 := eq_true p240
           replace q240 := eq_true q240; have q240n : (x20_2 < ((l0.length - 1 : Nat) : Int)) = True := by have z_ := q240; rwa [List.length_drop] at z_
           go_wp2_with (first | ((with_reducible refine gate_callee (f := 60) rfl ?_); refine goesL_ (some 26) rfl rfl Tryd.func60 (by kernel_rfl) rfl #[.int .u8 (rd (drop1 l0) x20_2)] rfl (by (try simp only [List.map_toArray, List.map_cons, List.map_nil]); first | done | rfl | (simp only [List.length_drop, List.length_take]; rfl)) ?_; (with_reducible refine (octet_Class.calls (rd (drop1 l0) x20_2) t241 _ ?side1 A13.out).mono ?_); (case side1 => first | (with_reducible exact HG.out) | exact Glob.Globs_below HG.out (bl HB.out)); rintro e w24 ⟨rfl, hb⟩; refine ⟨_, rfl, ?_⟩; have n0_ := Aside0.mk (below_step (bl HB.out) hb); clear HB; have HB := n0_; clear n0_; (try clear hb); (try clear hb2); (try clear hk); (try clear hi)))
           go_ret
           exact ⟨by first | rfl | (simp [errW_none, errW_some] <;> rfl) | (simp [*, errW_none, errW_some] <;> rfl), bl HB.out⟩
         ·rw [if_neg c12] at H
          exact absurd H (by simp)
        ·rw [if_neg c11] at H
         exact absurd H (by simp)
       ·rw [if_neg c10] at H
        have c10b0 : decide (x20_2 < ((l0.drop 1).length : Int)) = false := decide_eq_false c10
        have c10b0n : decide (x20_2 < ((l0.length - 1 : Nat) : Int)) = false := by have z_ := c10b0; rwa [List.length_drop] at z_
        clear c10
        obtain rfl := Option.some.inj H
        go_wp2
        go_ret
        exact ⟨by first | rfl | (simp [errW_none, errW_some] <;> rfl) | (simp [*, errW_none, errW_some] <;> rfl), bl HB.out⟩
    ·rw [if_neg c8] at H
     exact absurd H (by simp)
end Go.Proofs.YteoonhidjldnfaaDoor.Pr

namespace Go.Proofs.YteoonhidjldnfaaDoor.Pr
open Go.RowKit Go.Proofs.YteoonhidjldnfaaDoorW.PrintWords Go.Proofs.YteoonhidjldnfaaDoorW.PrintLast Go.Proofs.YteoonhidjldnfaaDoorW.PrintMore
set_option linter.unusedVariables false
set_option linter.unusedSimpArgs false
def stepV (z c : Int) : Int := bits .or .i32 (wrap32 (z * 64)) (wrap32 (bits .and .u8 c 63))
def headV (x m : Int) : Int := wrap32 (bits .and .u8 x m)
def valL : List Int → Option Int
  | [x0] => some (headV x0 127)
  | [x0, x1] => some (stepV (headV x0 31) x1)
  | [x0, x1, x2] => some (stepV (stepV (headV x0 15) x1) x2)
  | [x0, x1, x2, x3] => some (stepV (stepV (stepV (headV x0 7) x1) x2) x3)
  | _ => none
def octet_Value.f (k : Nat) (l0 : List Int) : Option Int := (octet_Whole.f k l0).bind fun t => if t = true then valL l0 else some (-1)
theorem ret_i32 {a b : Int} (h : a = b) : Ending.returned (.int .i32 a) = .returned (.int .i32 b) := by rw [h]
set_option maxHeartbeats 8000000 in
set_option maxRecDepth 100000 in
theorem octet_Value.no (k : Nat) (A0 : Option Addr) (c0 : Nat) (l0 : List Int) (w : World) (hG : Glob.Globs w) (hr0 : Kd.C (Kd.int .u8) w A0 l0.length l0) (hc0 : l0.length ≤ c0) (h : octet_Whole.f k l0 = some false) :
    Calls Tryd.prog 54 #[.slice A0 l0.length c0] w fun e w' => e = .returned (.int .i32 (-1)) ∧ Below w.heap.size w w' := by
  have HG := Lib.hid hG
  have HR := Lib.hid hr0
  have HH := Lib.hid h
  have HC := Lib.hid hc0
  clear hG hr0 h hc0
  go_enter Tryd.func54, Tryd.ntmps54
  go_wp2_with (go_at_call 57; refine (octet_Whole.calls k _ _ _ false _ HG.out HR.out HC.out HH.out).mono ?_; rintro e w1 ⟨rfl, hb⟩)
  go_ret
  exact ⟨rfl, hb⟩
set_option maxHeartbeats 8000000 in
set_option maxRecDepth 100000 in
theorem octet_Value.yes1 (A0 : Option Addr) (c0 : Nat) (x0 : Int) (w : World) (hG : Glob.Globs w) (hr0 : Kd.C (Kd.int .u8) w A0 1 [x0]) (hc0 : 1 ≤ c0) (k : Nat) (h : octet_Whole.f k [x0] = some true) (r : Int) (hv : valL [x0] = some r) :
    Calls Tryd.prog 54 #[.slice A0 1 c0] w fun e w' => e = .returned (.int .i32 r) ∧ Below w.heap.size w w' := by
  have HV := Lib.hid (Option.some.inj hv)
  clear hv
  have HG := Lib.hid hG
  have HR := Lib.hid hr0
  have HH := Lib.hid h
  have HC := Lib.hid hc0
  clear hG hr0 h hc0
  obtain ⟨ad, rfl, hx0⟩ := Kd.at_int HR.out 0 (by omega) (by simp)
  go_enter Tryd.func54, Tryd.ntmps54
  go_wp2_with (go_at_call 57; refine (octet_Whole.calls k _ _ _ true _ HG.out HR.out HC.out HH.out).mono ?_; rintro e w1 ⟨rfl, hb⟩)
  have hG1 := Glob.Globs_below HG.out hb
  have hm : w1.cell? ⟨1, 1, none⟩ = some (.int .u8 127) := by rw [hG1.masks_cell]; rfl
  have hy0 := (hb.cell (World.block_lt_of_cell? w _ hx0)).trans hx0
  clear hx0 hG1
  obtain ⟨b, o, sp⟩ := ad
  have hsp : sp = none := by simpa [Addr.add] using World.cell?_spot hy0
  subst hsp
  have hz0 : w1.cell? ⟨b, o, none⟩ = some (.int .u8 x0) := by simpa [rd, Addr.add] using hy0
  clear hy0
  go_quiet (fail)
  all_goals go_wp2
  all_goals go_loop [3, 21] (fun r i => i = .int .i64 0 ∧ r = .int .i32 (headV x0 127)) (fun _ i => 1 - (intOf i).toNat)
  all_goals first
    | (case atStart => exact ⟨rfl, rfl⟩)
    | skip
  all_goals (obtain ⟨rfl, rfl⟩ := hrel; go_wp2; go_ret; exact ⟨ret_i32 HV.out, pw_below_drewN hb _⟩)
set_option maxHeartbeats 8000000 in
set_option maxRecDepth 100000 in
theorem octet_Value.yes2 (A0 : Option Addr) (c0 : Nat) (x0 x1 : Int) (w : World) (hG : Glob.Globs w) (hr0 : Kd.C (Kd.int .u8) w A0 2 [x0, x1]) (hc0 : 2 ≤ c0) (k : Nat) (h : octet_Whole.f k [x0, x1] = some true) (r : Int) (hv : valL [x0, x1] = some r) :
    Calls Tryd.prog 54 #[.slice A0 2 c0] w fun e w' => e = .returned (.int .i32 r) ∧ Below w.heap.size w w' := by
  have HV := Lib.hid (Option.some.inj hv)
  clear hv
  have HG := Lib.hid hG
  have HR := Lib.hid hr0
  have HH := Lib.hid h
  have HC := Lib.hid hc0
  clear hG hr0 h hc0
  obtain ⟨ad, rfl, hx0⟩ := Kd.at_int HR.out 0 (by omega) (by simp)
  obtain ⟨_, e1, hx1⟩ := Kd.at_int HR.out 1 (by omega) (by simp)
  cases e1
  go_enter Tryd.func54, Tryd.ntmps54
  go_wp2_with (go_at_call 57; refine (octet_Whole.calls k _ _ _ true _ HG.out HR.out HC.out HH.out).mono ?_; rintro e w1 ⟨rfl, hb⟩)
  have hG1 := Glob.Globs_below HG.out hb
  have hm : w1.cell? ⟨1, 2, none⟩ = some (.int .u8 31) := by rw [hG1.masks_cell]; rfl
  have hy0 := (hb.cell (World.block_lt_of_cell? w _ hx0)).trans hx0
  have hy1 := (hb.cell (World.block_lt_of_cell? w _ hx1)).trans hx1
  clear hx0 hx1 hG1
  obtain ⟨b, o, sp⟩ := ad
  have hsp : sp = none := by simpa [Addr.add] using World.cell?_spot hy0
  subst hsp
  have hz0 : w1.cell? ⟨b, o, none⟩ = some (.int .u8 x0) := by simpa [rd, Addr.add] using hy0
  have hz1 : w1.cell? ⟨b, o + 1, none⟩ = some (.int .u8 x1) := by simpa [rd, Addr.add, Nat.add_assoc] using hy1
  clear hy0 hy1
  have hne : ¬ c0 = 1 := by have := HC.out; omega
  go_quiet (fail)
  go_wp2
  go_loop [3, 21] (fun r i => ∃ j : Nat, i = .int .i64 j ∧ ((j = 0 ∧ r = .int .i32 (headV x0 31)) ∨ (j = 1 ∧ r = .int .i32 (stepV (headV x0 31) x1)))) (fun _ i => 1 - (intOf i).toNat)
  case atStart => exact ⟨0, rfl, .inl ⟨rfl, rfl⟩⟩
  case round =>
    obtain ⟨j, rfl, hj⟩ := hrel
    rcases hj with ⟨rfl, rfl⟩ | ⟨rfl, rfl⟩
    · go_wp2
      go_round
      case rel => exact ⟨1, rfl, .inr (⟨rfl, rfl⟩)⟩
      case measure => simp [intOf]
    · go_wp2
      go_ret
      exact ⟨ret_i32 HV.out, pw_below_drewN hb _⟩
set_option maxHeartbeats 8000000 in
set_option maxRecDepth 100000 in
theorem octet_Value.yes3 (A0 : Option Addr) (c0 : Nat) (x0 x1 x2 : Int) (w : World) (hG : Glob.Globs w) (hr0 : Kd.C (Kd.int .u8) w A0 3 [x0, x1, x2]) (hc0 : 3 ≤ c0) (k : Nat) (h : octet_Whole.f k [x0, x1, x2] = some true) (r : Int) (hv : valL [x0, x1, x2] = some r) :
    Calls Tryd.prog 54 #[.slice A0 3 c0] w fun e w' => e = .returned (.int .i32 r) ∧ Below w.heap.size w w' := by
  have HV := Lib.hid (Option.some.inj hv)
  clear hv
  have HG := Lib.hid hG
  have HR := Lib.hid hr0
  have HH := Lib.hid h
  have HC := Lib.hid hc0
  clear hG hr0 h hc0
  obtain ⟨ad, rfl, hx0⟩ := Kd.at_int HR.out 0 (by omega) (by simp)
  obtain ⟨_, e1, hx1⟩ := Kd.at_int HR.out 1 (by omega) (by simp)
  cases e1
  obtain ⟨_, e2, hx2⟩ := Kd.at_int HR.out 2 (by omega) (by simp)
  cases e2
  go_enter Tryd.func54, Tryd.ntmps54
  go_wp2_with (go_at_call 57; refine (octet_Whole.calls k _ _ _ true _ HG.out HR.out HC.out HH.out).mono ?_; rintro e w1 ⟨rfl, hb⟩)
  have hG1 := Glob.Globs_below HG.out hb
  have hm : w1.cell? ⟨1, 3, none⟩ = some (.int .u8 15) := by rw [hG1.masks_cell]; rfl
  have hy0 := (hb.cell (World.block_lt_of_cell? w _ hx0)).trans hx0
  have hy1 := (hb.cell (World.block_lt_of_cell? w _ hx1)).trans hx1
  have hy2 := (hb.cell (World.block_lt_of_cell? w _ hx2)).trans hx2
  clear hx0 hx1 hx2 hG1
  obtain ⟨b, o, sp⟩ := ad
  have hsp : sp = none := by simpa [Addr.add] using World.cell?_spot hy0
  subst hsp
  have hz0 : w1.cell? ⟨b, o, none⟩ = some (.int .u8 x0) := by simpa [rd, Addr.add] using hy0
  have hz1 : w1.cell? ⟨b, o + 1, none⟩ = some (.int .u8 x1) := by simpa [rd, Addr.add, Nat.add_assoc] using hy1
  have hz2 : w1.cell? ⟨b, o + 1 + 1, none⟩ = some (.int .u8 x2) := by simpa [rd, Addr.add, Nat.add_assoc] using hy2
  clear hy0 hy1 hy2
  have hne : ¬ c0 = 1 := by have := HC.out; omega
  go_quiet (fail)
  go_wp2
  go_loop [3, 21] (fun r i => ∃ j : Nat, i = .int .i64 j ∧ ((j = 0 ∧ r = .int .i32 (headV x0 15)) ∨ (j = 1 ∧ r = .int .i32 (stepV (headV x0 15) x1)) ∨ (j = 2 ∧ r = .int .i32 (stepV (stepV (headV x0 15) x1) x2)))) (fun _ i => 2 - (intOf i).toNat)
  case atStart => exact ⟨0, rfl, .inl ⟨rfl, rfl⟩⟩
  case round =>
    obtain ⟨j, rfl, hj⟩ := hrel
    rcases hj with ⟨rfl, rfl⟩ | ⟨rfl, rfl⟩ | ⟨rfl, rfl⟩
    · go_wp2
      go_round
      case rel => exact ⟨1, rfl, .inr (.inl ⟨rfl, rfl⟩)⟩
      case measure => simp [intOf]
    · go_wp2
      go_round
      case rel => exact ⟨2, rfl, .inr (.inr (⟨rfl, rfl⟩))⟩
      case measure => simp [intOf]
    · go_wp2
      go_ret
      exact ⟨ret_i32 HV.out, pw_below_drewN hb _⟩
set_option maxHeartbeats 8000000 in
set_option maxRecDepth 100000 in
theorem octet_Value.yes4 (A0 : Option Addr) (c0 : Nat) (x0 x1 x2 x3 : Int) (w : World) (hG : Glob.Globs w) (hr0 : Kd.C (Kd.int .u8) w A0 4 [x0, x1, x2, x3]) (hc0 : 4 ≤ c0) (k : Nat) (h : octet_Whole.f k [x0, x1, x2, x3] = some true) (r : Int) (hv : valL [x0, x1, x2, x3] = some r) :
    Calls Tryd.prog 54 #[.slice A0 4 c0] w fun e w' => e = .returned (.int .i32 r) ∧ Below w.heap.size w w' := by
  have HV := Lib.hid (Option.some.inj hv)
  clear hv
  have HG := Lib.hid hG
  have HR := Lib.hid hr0
  have HH := Lib.hid h
  have HC := Lib.hid hc0
  clear hG hr0 h hc0
  obtain ⟨ad, rfl, hx0⟩ := Kd.at_int HR.out 0 (by omega) (by simp)
  obtain ⟨_, e1, hx1⟩ := Kd.at_int HR.out 1 (by omega) (by simp)
  cases e1
  obtain ⟨_, e2, hx2⟩ := Kd.at_int HR.out 2 (by omega) (by simp)
  cases e2
  obtain ⟨_, e3, hx3⟩ := Kd.at_int HR.out 3 (by omega) (by simp)
  cases e3
  go_enter Tryd.func54, Tryd.ntmps54
  go_wp2_with (go_at_call 57; refine (octet_Whole.calls k _ _ _ true _ HG.out HR.out HC.out HH.out).mono ?_; rintro e w1 ⟨rfl, hb⟩)
  have hG1 := Glob.Globs_below HG.out hb
  have hm : w1.cell? ⟨1, 4, none⟩ = some (.int .u8 7) := by rw [hG1.masks_cell]; rfl
  have hy0 := (hb.cell (World.block_lt_of_cell? w _ hx0)).trans hx0
  have hy1 := (hb.cell (World.block_lt_of_cell? w _ hx1)).trans hx1
  have hy2 := (hb.cell (World.block_lt_of_cell? w _ hx2)).trans hx2
  have hy3 := (hb.cell (World.block_lt_of_cell? w _ hx3)).trans hx3
  clear hx0 hx1 hx2 hx3 hG1
  obtain ⟨b, o, sp⟩ := ad
  have hsp : sp = none := by simpa [Addr.add] using World.cell?_spot hy0
  subst hsp
  have hz0 : w1.cell? ⟨b, o, none⟩ = some (.int .u8 x0) := by simpa [rd, Addr.add] using hy0
  have hz1 : w1.cell? ⟨b, o + 1, none⟩ = some (.int .u8 x1) := by simpa [rd, Addr.add, Nat.add_assoc] using hy1
  have hz2 : w1.cell? ⟨b, o + 1 + 1, none⟩ = some (.int .u8 x2) := by simpa [rd, Addr.add, Nat.add_assoc] using hy2
  have hz3 : w1.cell? ⟨b, o + 1 + 2, none⟩ = some (.int .u8 x3) := by simpa [rd, Addr.add, Nat.add_assoc] using hy3
  clear hy0 hy1 hy2 hy3
  have hne : ¬ c0 = 1 := by have := HC.out; omega
  go_quiet (fail)
  go_wp2
  go_loop [3, 21] (fun r i => ∃ j : Nat, i = .int .i64 j ∧ ((j = 0 ∧ r = .int .i32 (headV x0 7)) ∨ (j = 1 ∧ r = .int .i32 (stepV (headV x0 7) x1)) ∨ (j = 2 ∧ r = .int .i32 (stepV (stepV (headV x0 7) x1) x2)) ∨ (j = 3 ∧ r = .int .i32 (stepV (stepV (stepV (headV x0 7) x1) x2) x3)))) (fun _ i => 3 - (intOf i).toNat)
  case atStart => exact ⟨0, rfl, .inl ⟨rfl, rfl⟩⟩
  case round =>
    obtain ⟨j, rfl, hj⟩ := hrel
    rcases hj with ⟨rfl, rfl⟩ | ⟨rfl, rfl⟩ | ⟨rfl, rfl⟩ | ⟨rfl, rfl⟩
    · go_wp2
      go_round
      case rel => exact ⟨1, rfl, .inr (.inl ⟨rfl, rfl⟩)⟩
      case measure => simp [intOf]
    · go_wp2
      go_round
      case rel => exact ⟨2, rfl, .inr (.inr (.inl ⟨rfl, rfl⟩))⟩
      case measure => simp [intOf]
    · go_wp2
      go_round
      case rel => exact ⟨3, rfl, .inr (.inr (.inr (⟨rfl, rfl⟩)))⟩
      case measure => simp [intOf]
    · go_wp2
      go_ret
      exact ⟨ret_i32 HV.out, pw_below_drewN hb _⟩
theorem octet_Value.calls (k : Nat) (A0 : Option Addr) (c0 : Nat) (l0 : List Int) (r : Int) (w : World) (hG : Glob.Globs w) (hr0 : Kd.C (Kd.int .u8) w A0 l0.length l0) (hc0 : l0.length ≤ c0) (h : octet_Value.f k l0 = some r) :
    Calls Tryd.prog 54 #[.slice A0 l0.length c0] w fun e w' => e = .returned (.int .i32 r) ∧ Below w.heap.size w w' := by
  obtain ⟨t, ht, hr⟩ := Option.bind_eq_some_iff.mp h
  cases t with
  | false =>
    obtain rfl : -1 = r := by simpa using hr
    exact octet_Value.no k A0 c0 l0 w hG hr0 hc0 ht
  | true =>
    replace hr : valL l0 = some r := by simpa using hr
    match l0, hr0, hc0, ht, hr with
    | [], _, _, _, hr => simp [valL] at hr
    | [x0], hr0, hc0, ht, hr => exact octet_Value.yes1 A0 c0 x0 w hG hr0 hc0 k ht r hr
    | [x0, x1], hr0, hc0, ht, hr => exact octet_Value.yes2 A0 c0 x0 x1 w hG hr0 hc0 k ht r hr
    | [x0, x1, x2], hr0, hc0, ht, hr => exact octet_Value.yes3 A0 c0 x0 x1 x2 w hG hr0 hc0 k ht r hr
    | [x0, x1, x2, x3], hr0, hc0, ht, hr => exact octet_Value.yes4 A0 c0 x0 x1 x2 x3 w hG hr0 hc0 k ht r hr
    | _ :: _ :: _ :: _ :: _ :: _, _, _, _, hr => simp [valL] at hr
end Go.Proofs.YteoonhidjldnfaaDoor.Pr
