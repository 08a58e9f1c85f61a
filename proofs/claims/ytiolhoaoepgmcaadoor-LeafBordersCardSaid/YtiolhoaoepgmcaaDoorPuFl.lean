/- What the printed step.Floor says, in plain words: the last edge at or ahead of a place. Conditions: bytes, lengths that fit, rounds enough. -/
import Derived.Test.YtiolhoaoepgmcaaDoorEncW
import Derived.Test.YtiolhoaoepgmcaaDoorPuMo
import Derived.Test.YtiolhoaoepgmcaaDoorPr3
namespace Go.Proofs.YtiolhoaoepgmcaaDoor.PuMs
open Go.RowKit Go.Proofs.YtiolhoaoepgmcaaDoor.Pr Go.Proofs.YtiolhoaoepgmcaaDoor.Math Go.Proofs.YtiolhoaoepgmcaaDoor.PuSz Go.Proofs.YtiolhoaoepgmcaaDoorW.PrintWords Go.Proofs.YtiolhoaoepgmcaaDoorW.PrintLast Go.Proofs.YtiolhoaoepgmcaaDoorW.PrintMore
set_option linter.unusedVariables false
set_option linter.unusedSimpArgs false

theorem rune_size (r : Int) : (strOfRune r).size = (enc r).length := by
  have h := encode_eq r
  have h2 := congrArg List.length h
  rw [str_toList, List.length_map] at h2
  rw [← h2]
  show (Utf8.encode r).size = _
  rw [ByteArray.toList_eq]
  exact (Array.length_toList).symm
theorem lg_take4 (q : List Int) : lg (q.take 4) = lg q := by
  by_cases h : 1 ≤ lg q
  · exact lg_take q 4 (lg_le q) h
  · by_cases h2 : 1 ≤ lg (q.take 4)
    · have := lg_append (q.take 4) (q.drop 4) h2
      rw [List.take_append_drop] at this
      omega
    · omega
theorem prefix_bad (q : List Int) (hb : Byt q) (h : Lib.hasPrefix (strOfNums q).data.toList [239, 191, 189] = true) : lg q = 3 := by
  rw [strOfNums_data] at h
  match q, hb, h with
  | [], _, h => simp [Lib.hasPrefix] at h
  | [x], _, h => simp [Lib.hasPrefix] at h
  | [x, y], _, h => simp [Lib.hasPrefix] at h
  | x :: y :: z :: t, hb, h =>
    have bx := hb x (by simp)
    have b_y := hb y (by simp)
    have bz := hb z (by simp)
    simp [Lib.hasPrefix] at h
    have ex : x = 239 := u8_inj bx (by omega) h.1.symm
    have ey : y = 191 := u8_inj b_y (by omega) h.2.1.symm
    have ez : z = 189 := u8_inj bz (by omega) h.2.2.symm
    subst ex ey ez
    rfl
/-- How wide the first step is. -/
theorem stepF_wd (q : List Int) (hb : Byt q) (hq : 0 < q.length) : (stepF (strOfNums q)).2.1 = ((wd q : Nat) : Int) := by
  have hd := decode_eq q hb 0 hq
  rw [List.drop_zero] at hd
  unfold stepF
  rw [hd.1]
  by_cases h0 : lg q = 0
  · have hr : ru q = 65533 := by unfold ru; rw [if_pos h0]
    have hp : Lib.hasPrefix (strOfNums q).data.toList [239, 191, 189] = false := by
      rw [Bool.eq_false_iff]
      intro h
      have := prefix_bad q hb h
      omega
    rw [if_pos ⟨by have := hd.1; omega, hp⟩]
    show (1 : Int) = _
    unfold wd
    rw [if_pos h0]
    rfl
  · have hll := lg_len q
    have hw : whole (q.take (lg q)) = true := by
      refine (whole_lg _ (hb.take _)).2 ⟨?_, ?_⟩
      · intro h
        have := congrArg List.length h
        rw [List.length_take, List.length_nil] at this
        omega
      · rw [lg_take q (lg q) (Nat.le_refl _) (by omega), List.length_take]
        omega
    have he := enc_whole _ (hb.take (lg q)) hw
    have hr : ru q = num (q.take (lg q)) := by unfold ru; rw [if_neg h0]
    rw [if_neg]
    · show ((strOfRune (ru q)).size : Int) = _
      rw [rune_size, hr, he, List.length_take]
      unfold wd
      rw [if_neg h0]
      omega
    · rintro ⟨h1, h2⟩
      rw [← hr, ← hd.1, h1] at he
      have h3 : q.take (lg q) = [239, 191, 189] := he.symm
      have h4 : Lib.hasPrefix (strOfNums q).data.toList [239, 191, 189] = true := by
        have e : q = [239, 191, 189] ++ q.drop (lg q) := by rw [← h3, List.take_append_drop]
        rw [e, strOfNums_data, List.map_append]
        simp [Lib.hasPrefix]
      rw [h4] at h2
      cases h2
theorem stepAt_eq (l : List Int) (hb : Byt l) (hl : l.length ≤ 4294967296) (p : Nat) (hp : p < l.length) : ∃ a c, step_at.f l p = some (a, ((wd (l.drop p) : Nat) : Int), c) := by
  unfold step_at.f
  have hm : mn (wrap64 ((p : Int) + 4)) (l.length : Int) = ((min (p + 4) l.length : Nat) : Int) := by
    rw [w64 (by omega) (by omega)]
    unfold mn
    split <;> omega
  rw [hm, if_pos (by omega), if_pos (by omega), if_pos (by omega), Int.toNat_natCast, Int.toNat_natCast]
  have hq : (l.take (min (p + 4) l.length)).drop p = (l.drop p).take 4 := by
    rw [List.drop_take]
    by_cases h : p + 4 ≤ l.length
    · rw [show min (p + 4) l.length - p = 4 by omega]
    · rw [List.take_of_length_le (by rw [List.length_drop]; omega), List.take_of_length_le (by rw [List.length_drop]; omega)]
  rw [hq]
  have hn : 0 < ((l.drop p).take 4).length := by rw [List.length_take, List.length_drop]; omega
  unfold step_first.f
  rw [if_pos (by rw [sz_str]; exact hn)]
  simp only [Option.bind_some]
  have hs := stepF_wd _ ((hb.drop p).take 4) hn
  have hw4 : wd ((l.drop p).take 4) = wd (l.drop p) := by unfold wd; rw [lg_take4]
  rw [hs, hw4]
  exact ⟨_, _, rfl⟩
/-- How far ahead the encoding begins that goes over a place. -/
def insK (l : List Int) (p : Nat) : Nat := if 1 ≤ p ∧ 1 < wd (l.drop (p - 1)) then 1 else if 2 ≤ p ∧ 2 < wd (l.drop (p - 2)) then 2 else if 3 ≤ p ∧ 3 < wd (l.drop (p - 3)) then 3 else 0
def flo (l : List Int) (p : Nat) : Nat := p - insK l p
theorem insK_le (l : List Int) (p : Nat) : insK l p ≤ 3 ∧ insK l p ≤ p := by unfold insK; (repeat' split) <;> omega
theorem inside_next (l : List Int) (hb : Byt l) (hl : l.length ≤ 4294967296) (p j : Nat) (hp : p ≤ l.length) (h1 : 1 ≤ j) (h3 : j ≤ 3) (k : Nat) :
    step_inside.l0 (k + 2) l p j = if j ≤ p then (if j < wd (l.drop (p - j)) then some (j : Int) else step_inside.l0 k l p ((j + 1 : Nat) : Int)) else some 0 := by
  rw [step_inside.l0, if_pos (by omega), step_inside.j1]
  by_cases hj : j ≤ p
  · rw [if_pos hj, if_pos (decide_eq_true (by omega)), w64 (by omega) (by omega), show ((p : Int) - (j : Int)) = ((p - j : Nat) : Int) by omega]
    obtain ⟨a, c, h⟩ := stepAt_eq l hb hl (p - j) (by omega)
    rw [h]
    simp only [Option.bind_some]
    by_cases hw : j < wd (l.drop (p - j))
    · rw [if_pos hw, if_pos (by omega)]
    · rw [if_neg hw, if_neg (by omega), w64 (by omega) (by omega)]
      rfl
  · rw [if_neg hj, if_neg (by simp; omega)]
theorem inside4 (l : List Int) (p : Nat) (k : Nat) : step_inside.l0 (k + 2) l p 4 = some 0 := by
  rw [step_inside.l0, if_neg (by omega), step_inside.j1, if_neg (by decide)]
theorem inside_eq' (k : Nat) (l : List Int) (hb : Byt l) (hl : l.length ≤ 4294967296) (p : Nat) (hp : p ≤ l.length) : step_inside.f (k + 8) l p = some ((insK l p : Nat) : Int) := by
  unfold step_inside.f insK
  rw [show (1 : Int) = ((1 : Nat) : Int) from rfl, show k + 8 = (k + 6) + 2 by omega, inside_next l hb hl p 1 hp (by omega) (by omega) (k + 6)]
  by_cases a1 : 1 ≤ p
  · rw [if_pos a1]
    by_cases b1 : 1 < wd (l.drop (p - 1))
    · rw [if_pos b1, if_pos ⟨a1, b1⟩]
    · rw [if_neg b1, if_neg (fun h => b1 h.2), show k + 6 = (k + 4) + 2 by omega, inside_next l hb hl p 2 hp (by omega) (by omega) (k + 4)]
      by_cases a2 : 2 ≤ p
      · rw [if_pos a2]
        by_cases b2 : 2 < wd (l.drop (p - 2))
        · rw [if_pos b2, if_pos ⟨a2, b2⟩]
        · rw [if_neg b2, if_neg (fun h => b2 h.2), show k + 4 = (k + 2) + 2 by omega, inside_next l hb hl p 3 hp (by omega) (by omega) (k + 2)]
          by_cases a3 : 3 ≤ p
          · rw [if_pos a3]
            by_cases b3 : 3 < wd (l.drop (p - 3))
            · rw [if_pos b3, if_pos ⟨a3, b3⟩]
            · rw [if_neg b3, if_neg (fun h => b3 h.2)]
              exact inside4 l p k
          · rw [if_neg a3, if_neg (fun h => a3 h.1)]
            rfl
      · rw [if_neg a2, if_neg (fun h => a2 h.1), if_neg (fun h => a2 (by omega))]
        rfl
  · rw [if_neg a1, if_neg (fun h => a1 h.1), if_neg (fun h => a1 (by omega)), if_neg (fun h => a1 (by omega))]
    rfl
theorem floor_eq (k : Nat) (l : List Int) (hb : Byt l) (hl : l.length ≤ 4294967296) (p : Nat) (hp : p ≤ l.length) : step_Floor.f (k + 8) l p = some (((flo l p : Nat) : Int), 0) := by
  have h := insK_le l p
  unfold step_Floor.f flo
  rw [if_neg (by omega), if_neg (by omega), inside_eq' k l hb hl p hp]
  simp only [Option.bind_some]
  rw [w64 (by omega) (by omega), show ((p : Int) - ((insK l p : Nat) : Int)) = ((p - insK l p : Nat) : Int) by omega]
theorem wd_lg {l : List Int} {k : Nat} (hk : 1 ≤ k) : k < wd l ↔ k < lg l := by unfold wd; split <;> omega
theorem flo_edge (l : List Int) (p : Nat) : insB l (flo l p) = false := by
  have key : ∀ k, 1 ≤ k → k ≤ p → k < lg (l.drop (p - k)) → insB l (p - k) = false := by
    intro k h1 h2 h3
    rw [Bool.eq_false_iff]
    intro h
    obtain ⟨j, j1, j2, j3, j4⟩ := (insB_true l (p - k)).1 h
    have := lg_drop_tail l (p - k - j) j j1 j4
    rw [show p - k - j + j = p - k by omega] at this
    omega
  unfold flo insK
  split
  · rename_i h
    exact key 1 (by omega) h.1 ((wd_lg (by omega)).1 h.2)
  · rename_i a1
    split
    · rename_i h
      exact key 2 (by omega) h.1 ((wd_lg (by omega)).1 h.2)
    · rename_i a2
      split
      · rename_i h
        exact key 3 (by omega) h.1 ((wd_lg (by omega)).1 h.2)
      · rename_i a3
        rw [Nat.sub_zero, insB_false]
        intro k k1 k3 kp
        have hk : k = 1 ∨ k = 2 ∨ k = 3 := by omega
        rw [← Nat.not_lt, ← wd_lg k1]
        rcases hk with rfl | rfl | rfl
        · exact fun h => a1 ⟨kp, h⟩
        · exact fun h => a2 ⟨kp, h⟩
        · exact fun h => a3 ⟨kp, h⟩
/-- Between it and the place there is no edge. -/
theorem flo_between (l : List Int) (p q : Nat) (h1 : flo l p < q) (h2 : q ≤ p) : insB l q = true := by
  have hc : ∀ k, 1 ≤ k → k ≤ 3 → k ≤ p → k < lg (l.drop (p - k)) → p - k < q → insB l q = true := by
    intro k k1 k3 kp kl kq
    rw [insB_true]
    refine ⟨q - (p - k), by omega, by omega, by omega, ?_⟩
    rw [show q - (q - (p - k)) = p - k by omega]
    omega
  unfold flo insK at h1
  split at h1
  · rename_i h
    exact hc 1 (by omega) (by omega) h.1 ((wd_lg (by omega)).1 h.2) h1
  · split at h1
    · rename_i h
      exact hc 2 (by omega) (by omega) h.1 ((wd_lg (by omega)).1 h.2) h1
    · split at h1
      · rename_i h
        exact hc 3 (by omega) (by omega) h.1 ((wd_lg (by omega)).1 h.2) h1
      · omega
end Go.Proofs.YtiolhoaoepgmcaaDoor.PuMs
