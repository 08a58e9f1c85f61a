/- Proved here: the pure statement of the law OctetTable: Class, Need and Second of all bytes are the document's. Conditions: none (a closed sentence). -/
import Derived.Test.YtbbccljelfjnkaaDoorEvOct
namespace Go.Proofs.YtbbccljelfjnkaaDoor.Pure
open Go.RowKit Go.Proofs.YtbbccljelfjnkaaDoor.Pr Go.Proofs.YtbbccljelfjnkaaDoor.Math Go.Proofs.YtbbccljelfjnkaaDoor.Ev Go.Proofs.YtbbccljelfjnkaaDoorW.PrintWords Go.Proofs.YtbbccljelfjnkaaDoorW.PrintLast
set_option linter.unusedVariables false
theorem table_l1 (K : Nat) (a : Int) (ha : 0 ≤ a ∧ a < 256) (hn : ∀ k, K ≤ k → galleylaw01_OctetTable.l0 k (a + 1) = some true) (d : Nat) :
    ∀ (k : Nat) (b : Int), 0 ≤ b → b ≤ 256 → 256 - b = d → K + d < k → galleylaw01_OctetTable.l1 k a b = some true := by
  induction d with
  | zero =>
    intro k b h0 h1 hd hk
    obtain ⟨k, rfl⟩ : ∃ m, k = m + 1 := ⟨k - 1, by omega⟩
    simp only [galleylaw01_OctetTable.l1]
    rw [if_neg (by omega), wrap64_in' (by omega) (by omega)]
    exact hn k (by omega)
  | succ d ih =>
    intro k b h0 h1 hd hk
    obtain ⟨k, rfl⟩ : ∃ m, k = m + 1 := ⟨k - 1, by omega⟩
    have hs : galleyref01_Second.f k a b = some (sec a b) := by
      obtain ⟨k, rfl⟩ : ∃ m, k = m + 1 := ⟨k - 1, by omega⟩
      exact r_Second k a b (by omega)
    simp only [galleylaw01_OctetTable.l1]
    rw [if_pos (by omega), show a % 256 = a by omega, show b % 256 = b by omega, o_Second a b (by omega), hs]
    simp only [Option.bind_some]
    rw [if_neg (by simp), wrap64_in' (by omega) (by omega)]
    exact ih k (b + 1) (by omega) (by omega) (by omega) (by omega)
theorem table_l0 (d : Nat) : ∀ a : Int, 0 ≤ a → 256 - a = d → ∃ K, ∀ k, K ≤ k → galleylaw01_OctetTable.l0 k a = some true := by
  induction d with
  | zero =>
    intro a h0 hd
    refine ⟨1, fun k hk => ?_⟩
    obtain ⟨k, rfl⟩ : ∃ m, k = m + 1 := ⟨k - 1, by omega⟩
    simp only [galleylaw01_OctetTable.l0]
    rw [if_neg (by omega)]
  | succ d ih =>
    intro a h0 hd
    obtain ⟨K, hK⟩ := ih (a + 1) (by omega) (by omega)
    refine ⟨K + 259, fun k hk => ?_⟩
    obtain ⟨k, rfl⟩ : ∃ m, k = m + 1 := ⟨k - 1, by omega⟩
    obtain ⟨k, rfl⟩ : ∃ m, k = m + 1 := ⟨k - 1, by omega⟩
    simp only [galleylaw01_OctetTable.l0, galleylaw01_OctetTable.j1]
    rw [if_pos (by omega), show a % 256 = a by omega, o_Class a (by omega), r_Class, o_Need a (by omega), r_Need]
    simp only [Option.bind_some, if_true]
    rw [if_neg (by simp)]
    exact table_l1 K a (by omega) hK 256 k 0 (by omega) (by omega) (by omega) (by omega)
theorem OctetTable : galleylaw01_OctetTable.Pure := by
  obtain ⟨K, hK⟩ := table_l0 256 0 (by omega) (by omega)
  refine ⟨K, ?_⟩
  unfold galleylaw01_OctetTable.f galleylaw01_awake.f
  simp only [Option.bind_some, if_true]
  exact hK K (Nat.le_refl _)
end Go.Proofs.YtbbccljelfjnkaaDoor.Pure
