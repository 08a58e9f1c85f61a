import Derived.Test.YtbbccljelfjnkaaDoorGlob
import Derived.Test.YtbbccljelfjnkaaDoorPr0
import Derived.Outline
import Derived.WalkSpells
import Derived.Lib.Hide
namespace Go.Proofs.YtbbccljelfjnkaaDoor.Pr
open Go.RowKit
set_option linter.unusedVariables false
set_option linter.unusedSimpArgs false

/-- The class of a byte, as the document numbers it. -/
def clsN (b : Int) : Int := if b < 128 then 1 else if b < 192 then 2 else if b < 194 then 6 else if b < 224 then 3 else if b < 240 then 4 else if b < 245 then 5 else 6
def octet_Class.f (a0 : Int) : Option Int := if 0 ≤ a0 ∧ a0 ≤ 255 then some (clsN a0) else none
theorem ret_i64 {a b : Int} (h : a = b) : Ending.returned (.int .i64 a) = .returned (.int .i64 b) := by rw [h]
/-- Where the spans begin. -/
def lo : Nat → Int
  | 0 => 0 | 1 => 128 | 2 => 192 | 3 => 194 | 4 => 224 | 5 => 240 | 6 => 245 | _ => 256

set_option maxHeartbeats 8000000 in
set_option maxRecDepth 100000 in
theorem octet_Class.calls (a0 : Int) (r : Int) (w : World) (hG : Glob.Globs w) (h : octet_Class.f a0 = some r) :
    Calls Tryd.prog 11 #[.int .u8 a0] w fun e w' => e = .returned (.int .i64 r) ∧ Below w.heap.size w w' := by
  unfold octet_Class.f at h
  split at h
  · rename_i hr
    obtain ⟨h0, h1⟩ := hr
    obtain ⟨⟨t0, f0, hs⟩, _⟩ := hG
    have HS := Lib.hid hs
    clear hs
    have hr := Option.some.inj h
    have HR := Lib.hid hr
    clear hr h
    go_enter Tryd.func11, Tryd.ntmps11
    go_wp2_with (refine wpList_load_row rfl 36 _ rfl 0 rfl t0 Glob.spansC f0 _ HS.out Tryd.underlying36 rfl (by kernel_rfl) ?_)
    have i0 : ∀ w, (Instr.index 36 (.agg Glob.spansC) (.int .i64 0)).run Tryd.prog w = .ok (.agg #[.int .i64 0, .int .i64 127, .int .i64 1]) w := fun _ => by kernel_rfl
    have i1 : ∀ w, (Instr.index 36 (.agg Glob.spansC) (.int .i64 1)).run Tryd.prog w = .ok (.agg #[.int .i64 128, .int .i64 191, .int .i64 2]) w := fun _ => by kernel_rfl
    have i2 : ∀ w, (Instr.index 36 (.agg Glob.spansC) (.int .i64 2)).run Tryd.prog w = .ok (.agg #[.int .i64 192, .int .i64 193, .int .i64 6]) w := fun _ => by kernel_rfl
    have i3 : ∀ w, (Instr.index 36 (.agg Glob.spansC) (.int .i64 3)).run Tryd.prog w = .ok (.agg #[.int .i64 194, .int .i64 223, .int .i64 3]) w := fun _ => by kernel_rfl
    have i4 : ∀ w, (Instr.index 36 (.agg Glob.spansC) (.int .i64 4)).run Tryd.prog w = .ok (.agg #[.int .i64 224, .int .i64 239, .int .i64 4]) w := fun _ => by kernel_rfl
    have i5 : ∀ w, (Instr.index 36 (.agg Glob.spansC) (.int .i64 5)).run Tryd.prog w = .ok (.agg #[.int .i64 240, .int .i64 244, .int .i64 5]) w := fun _ => by kernel_rfl
    have i6 : ∀ w, (Instr.index 36 (.agg Glob.spansC) (.int .i64 6)).run Tryd.prog w = .ok (.agg #[.int .i64 245, .int .i64 255, .int .i64 6]) w := fun _ => by kernel_rfl
    go_loopw [6] (fun i wr => ∃ k : Nat, k ≤ 6 ∧ i = .int .i64 k ∧ lo k ≤ a0 ∧ Below w.heap.size w wr) (fun i _ => 7 - (intOf i).toNat)
    case atStart => exact ⟨0, by omega, rfl, h0, Below.refl _ _⟩
    case round =>
      obtain ⟨k, hk, rfl, hlo, hB⟩ := hrel
      obtain ⟨k, rfl⟩ : ∃ k' : Nat, k' = k := ⟨k, rfl⟩
      have hcase : k = 0 ∨ k = 1 ∨ k = 2 ∨ k = 3 ∨ k = 4 ∨ k = 5 ∨ k = 6 := by omega
      rcases hcase with rfl | rfl | rfl | rfl | rfl | rfl | rfl
      · simp only [lo] at hlo
        by_cases hh : a0 ≤ 127
        · go_wp2
          go_ret
          exact ⟨ret_i64 (by rw [← HR.out]; unfold clsN; (repeat' split) <;> omega), by first | exact hB.alloc hB.size _ | exact (hB.alloc hB.size _).setCell (by simp; exact hB.size) _⟩
        · go_wp2
          go_roundw
          case rel => exact ⟨1, by omega, rfl, by simp only [lo]; omega, by first | exact hB.alloc hB.size _ | exact (hB.alloc hB.size _).setCell (by simp; exact hB.size) _⟩
          case measure => simp [intOf]
      · simp only [lo] at hlo
        by_cases hh : a0 ≤ 191
        · go_wp2
          go_ret
          exact ⟨ret_i64 (by rw [← HR.out]; unfold clsN; (repeat' split) <;> omega), by first | exact hB.alloc hB.size _ | exact (hB.alloc hB.size _).setCell (by simp; exact hB.size) _⟩
        · go_wp2
          go_roundw
          case rel => exact ⟨2, by omega, rfl, by simp only [lo]; omega, by first | exact hB.alloc hB.size _ | exact (hB.alloc hB.size _).setCell (by simp; exact hB.size) _⟩
          case measure => simp [intOf]
      · simp only [lo] at hlo
        by_cases hh : a0 ≤ 193
        · go_wp2
          go_ret
          exact ⟨ret_i64 (by rw [← HR.out]; unfold clsN; (repeat' split) <;> omega), by first | exact hB.alloc hB.size _ | exact (hB.alloc hB.size _).setCell (by simp; exact hB.size) _⟩
        · go_wp2
          go_roundw
          case rel => exact ⟨3, by omega, rfl, by simp only [lo]; omega, by first | exact hB.alloc hB.size _ | exact (hB.alloc hB.size _).setCell (by simp; exact hB.size) _⟩
          case measure => simp [intOf]
      · simp only [lo] at hlo
        by_cases hh : a0 ≤ 223
        · go_wp2
          go_ret
          exact ⟨ret_i64 (by rw [← HR.out]; unfold clsN; (repeat' split) <;> omega), by first | exact hB.alloc hB.size _ | exact (hB.alloc hB.size _).setCell (by simp; exact hB.size) _⟩
        · go_wp2
          go_roundw
          case rel => exact ⟨4, by omega, rfl, by simp only [lo]; omega, by first | exact hB.alloc hB.size _ | exact (hB.alloc hB.size _).setCell (by simp; exact hB.size) _⟩
          case measure => simp [intOf]
      · simp only [lo] at hlo
        by_cases hh : a0 ≤ 239
        · go_wp2
          go_ret
          exact ⟨ret_i64 (by rw [← HR.out]; unfold clsN; (repeat' split) <;> omega), by first | exact hB.alloc hB.size _ | exact (hB.alloc hB.size _).setCell (by simp; exact hB.size) _⟩
        · go_wp2
          go_roundw
          case rel => exact ⟨5, by omega, rfl, by simp only [lo]; omega, by first | exact hB.alloc hB.size _ | exact (hB.alloc hB.size _).setCell (by simp; exact hB.size) _⟩
          case measure => simp [intOf]
      · simp only [lo] at hlo
        by_cases hh : a0 ≤ 244
        · go_wp2
          go_ret
          exact ⟨ret_i64 (by rw [← HR.out]; unfold clsN; (repeat' split) <;> omega), by first | exact hB.alloc hB.size _ | exact (hB.alloc hB.size _).setCell (by simp; exact hB.size) _⟩
        · go_wp2
          go_roundw
          case rel => exact ⟨6, by omega, rfl, by simp only [lo]; omega, by first | exact hB.alloc hB.size _ | exact (hB.alloc hB.size _).setCell (by simp; exact hB.size) _⟩
          case measure => simp [intOf]
      · simp only [lo] at hlo
        by_cases hh : a0 ≤ 255
        · go_wp2
          go_ret
          exact ⟨ret_i64 (by rw [← HR.out]; unfold clsN; (repeat' split) <;> omega), by first | exact hB.alloc hB.size _ | exact (hB.alloc hB.size _).setCell (by simp; exact hB.size) _⟩
        · omega
  · cases h
end Go.Proofs.YtbbccljelfjnkaaDoor.Pr
