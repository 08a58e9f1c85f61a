/- Proved here: the pure statement of the law OctetOwn: the bytes stay, spare room too; what Bytes answers is new memory. Conditions: the list is a slice's, the number an int32. -/
import Derived.Test.YtbbccljelfjnkaaDoorEvBytes
import Derived.Test.YtbbccljelfjnkaaDoorPr8
namespace Go.Proofs.YtbbccljelfjnkaaDoor.Pure
open Go.RowKit Go.Proofs.YtbbccljelfjnkaaDoor.Pr Go.Proofs.YtbbccljelfjnkaaDoor.Math Go.Proofs.YtbbccljelfjnkaaDoor.Ev Go.Proofs.YtbbccljelfjnkaaDoorW.PrintWords Go.Proofs.YtbbccljelfjnkaaDoorW.PrintLast
set_option linter.unusedVariables false
set_option linter.unusedSimpArgs false
theorem own_l1 (l : List Int) (r : Int) (d : Nat) : ∀ (k : Nat) (x : List Int) (i : Int), x.length + d ≤ 100 → 0 ≤ i → 20 - i = d → d + 9 < k →
    galleylaw01_OctetOwn.l1 k l r (l ++ [7]) x (enc r) (strOfNums (enc r)) i = some true := by
  induction d with
  | zero =>
    intro k x i hx h0 hd hk
    obtain ⟨k, rfl⟩ : ∃ m, k = m + 1 := ⟨k - 1, by omega⟩
    obtain ⟨k, rfl⟩ : ∃ m, k = m + 9 := ⟨k - 9, by omega⟩
    simp only [galleylaw01_OctetOwn.l1]
    rw [if_neg (by omega), o_Bytes k r]
    simp [rd]
    omega
  | succ d ih =>
    intro k x i hx h0 hd hk
    obtain ⟨k, rfl⟩ : ∃ m, k = m + 1 := ⟨k - 1, by omega⟩
    simp only [galleylaw01_OctetOwn.l1]
    rw [if_pos (by omega), if_pos (by omega), wrap64_in' (by omega) (by omega)]
    exact ih k _ _ (by simp; omega) (by omega) (by omega) (by omega)
theorem own_l0 (l : List Int) (r : Int) (n : Int) (hn : n ≤ 4) (d : Nat) : ∀ (k : Nat) (x : List Int) (i : Int), (x.length : Int) = n → 0 ≤ i → i ≤ n → n - i = d → d + 40 < k →
    galleylaw01_OctetOwn.l0 k l r (l ++ [7]) x (enc r) (strOfNums (enc r)) n i = some true := by
  induction d with
  | zero =>
    intro k x i hx h0 h1 hd hk
    obtain ⟨k, rfl⟩ : ∃ m, k = m + 1 := ⟨k - 1, by omega⟩
    simp only [galleylaw01_OctetOwn.l0]
    rw [if_neg (by omega)]
    exact own_l1 l r 20 k x 0 (by omega) (by omega) (by omega) (by omega)
  | succ d ih =>
    intro k x i hx h0 h1 hd hk
    obtain ⟨k, rfl⟩ : ∃ m, k = m + 1 := ⟨k - 1, by omega⟩
    simp only [galleylaw01_OctetOwn.l0]
    rw [if_pos (by omega), if_pos (by omega), if_pos (by omega), wrap64_in' (by omega) (by omega)]
    exact ih k _ _ (by simp; omega) (by omega) (by omega) (by omega) (by omega)
theorem OctetOwn : galleylaw01_OctetOwn.Pure := by
  intro l r hl hb hw hr
  have h := Byt.of_wf hw
  refine ⟨60, ?_⟩
  unfold galleylaw01_OctetOwn.f galleylaw01_awake.f
  have h1 : ([] : List Int).length + l.length < 140737488355328 := by simp; omega
  have h2 : l.length < 140737488355328 := by omega
  simp only [Option.bind_some, if_true, if_pos h1, List.nil_append, if_pos h2]
  have ht : (l ++ [7]).take ((l.length : Int)).toNat = l := by rw [Int.toNat_natCast]; simp
  have hlen : ((l.length : Int)) ≤ ((l ++ [7] : List Int).length : Int) := by simp; omega
  rw [if_pos (by omega), if_pos hlen, ht, o_Whole 51 l h, o_Value 51 l h, o_Bytes 51 r, r_Bytes 51 r]
  simp only [Option.bind_some]
  have l4 : (enc r).length ≤ 4 := by
    obtain ⟨x, t, _, hx, _⟩ := enc_shape r
    have := need_le x
    omega
  exact own_l0 l r _ (by omega) (enc r).length 60 (enc r) 0 rfl (by omega) (by omega) (by omega) (by omega)
end Go.Proofs.YtbbccljelfjnkaaDoor.Pure
