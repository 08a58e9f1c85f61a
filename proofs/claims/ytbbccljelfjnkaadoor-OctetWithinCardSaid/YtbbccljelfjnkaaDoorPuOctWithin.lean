/- Proved here: the pure statement of the law OctetWithin: no encoding stands within another one. Conditions: both numbers are int32. -/
import Derived.Test.YtbbccljelfjnkaaDoorEvBytes
import Derived.Test.YtbbccljelfjnkaaDoorPr7
namespace Go.Proofs.YtbbccljelfjnkaaDoor.Pure
open Go.RowKit Go.Proofs.YtbbccljelfjnkaaDoor.Pr Go.Proofs.YtbbccljelfjnkaaDoor.Math Go.Proofs.YtbbccljelfjnkaaDoor.Ev Go.Proofs.YtbbccljelfjnkaaDoorW.PrintWords Go.Proofs.YtbbccljelfjnkaaDoorW.PrintLast
set_option linter.unusedVariables false
/-- An encoding that stands in another is that one. -/
theorem within (r s : Int) (i : Nat) (h : ((enc s).take (i + (enc r).length)).drop i = enc r) : enc r = enc s := by
  obtain ⟨x, t, ha, hx, _⟩ := enc_shape r
  obtain ⟨y, u, hb, hy, htl⟩ := enc_shape s
  have hn : 0 < (enc r).length := by rw [ha]; simp
  have h0 : (enc s)[i]? = some x := by
    have e : (((enc s).take (i + (enc r).length)).drop i)[0]? = some x := by rw [h, ha]; rfl
    rw [List.getElem?_drop, List.getElem?_take, if_pos (by omega)] at e
    simpa using e
  cases i with
  | zero =>
    rw [hb] at h0
    have hxy : y = x := by simpa using h0
    subst hxy
    have hl : (enc r).length = (enc s).length := by omega
    rw [Nat.zero_add, hl, List.take_length, List.drop_zero] at h
    exact h.symm
  | succ i =>
    rw [hb] at h0
    have hm : x ∈ u := List.mem_of_getElem? (by simpa using h0)
    have := need_zero (htl x hm)
    omega
theorem within_l0 (r s : Int) (hne : enc r ≠ enc s) (hb : (enc s).length ≤ 4) (hr : (enc r).length ≤ 4) (d : Nat) : ∀ (k : Nat) (i : Int), 0 ≤ i → i ≤ 5 → 5 - i = d → d < k →
    galleylaw01_OctetWithin.l0 k (enc r) (enc s) i = some true := by
  induction d with
  | zero =>
    intro k i h0 h1 hd hk
    obtain ⟨k, rfl⟩ : ∃ m, k = m + 1 := ⟨k - 1, by omega⟩
    simp only [galleylaw01_OctetWithin.l0]
    rw [wrap64_in' (by omega) (by omega), if_neg (by omega)]
  | succ d ih =>
    intro k i h0 h1 hd hk
    obtain ⟨k, rfl⟩ : ∃ m, k = m + 1 := ⟨k - 1, by omega⟩
    simp only [galleylaw01_OctetWithin.l0]
    rw [wrap64_in' (by omega) (by omega)]
    split
    · rw [if_pos (by omega), if_neg, wrap64_in' (by omega) (by omega)]
      · exact ih k (i + 1) (by omega) (by omega) (by omega) (by omega)
      · intro h
        obtain ⟨n, rfl⟩ := Int.eq_ofNat_of_zero_le h0
        have e : (((n : Int) + ((enc r).length : Int))).toNat = n + (enc r).length := by omega
        rw [e, Int.toNat_natCast] at h
        have hby : Byt (((enc s).take (n + (enc r).length)).drop n) := fun x hx => enc_byt s x (List.mem_of_mem_take (List.mem_of_mem_drop hx))
        exact hne (within r s n (str_inj hby (enc_byt r) h))
    · rfl
theorem OctetWithin : galleylaw01_OctetWithin.Pure := by
  intro r s hr hs
  refine ⟨9, ?_⟩
  unfold galleylaw01_OctetWithin.f galleylaw01_awake.f
  simp only [Option.bind_some, if_true]
  rw [o_Bytes 0 r, o_Bytes 0 s]
  simp only [Option.bind_some]
  have l4 (z : Int) : (enc z).length ≤ 4 := by
    obtain ⟨x, t, _, hx, _⟩ := enc_shape z
    have := need_le x
    omega
  split
  · rfl
  · rename_i h
    exact within_l0 r s (fun e => h (by rw [e])) (l4 s) (l4 r) 5 9 0 (by omega) (by omega) (by omega) (by omega)
end Go.Proofs.YtbbccljelfjnkaaDoor.Pure
