/- The contract of step.first, by hand: the step with which a string begins. Conditions: the string has a byte or more; step.bad's cells are as laid. -/
import Derived.Test.YtiolhoaoepgmcaaDoorGlob
import Derived.Test.YtiolhoaoepgmcaaDoorWWords
import Derived.Test.YtiolhoaoepgmcaaDoorWLast
import Derived.Test.YtiolhoaoepgmcaaDoorWMore
import Derived.Lib.OthersKept
import Derived.Lib.Strings
import Derived.Lib.Slices
import Derived.Lib.Walk
import Derived.Lib.Hide
import Derived.Outline
import Derived.WalkSpells
namespace Go.Proofs.YtiolhoaoepgmcaaDoor.Pr
open Go.RowKit Go.Proofs.YtiolhoaoepgmcaaDoorW.PrintWords Go.Proofs.YtiolhoaoepgmcaaDoorW.PrintLast Go.Proofs.YtiolhoaoepgmcaaDoorW.PrintMore
set_option linter.unusedVariables false
set_option linter.unusedSimpArgs false

set_option maxHeartbeats 1000000 in
theorem hasPrefix_calls (s p : ByteArray) (w : World) :
    Calls Tryd.prog 43 #[.string s, .string p] w fun e w' => e = .returned (.bool (Lib.hasPrefix s.data.toList p.data.toList)) ∧ w' = w := by
  rw [← Lib.hasPrefix_of_take, ← Lib.size_eq, ← Lib.size_eq]
  go_enter Tryd.func43, Tryd.ntmps43
  go_wp2
  · rename_i h
    go_ret
    refine ⟨?_, rfl⟩
    show Ending.returned (Value.bool ((s.extract 0 p.size).toList == p.toList)) = _
    rw [Lib.extract_toList, Lib.toList_data]
    simp [h]
  · rename_i h
    go_ret
    refine ⟨?_, rfl⟩
    show Ending.returned (Value.bool false) = _
    simp [h]

/-- The step with which a string begins: its rune, its width, whether it is whole. -/
def stepF (s : ByteArray) : Int × Int × Bool :=
  if (Utf8.decode s 0).1 = 65533 ∧ Lib.hasPrefix s.data.toList [239, 191, 189] = false then (65533, 1, false) else (((Utf8.decode s 0).1 : Nat), (strOfRune ((Utf8.decode s 0).1 : Nat)).size, true)
def stepA (x : Int × Int × Bool) : Value := .agg #[.int .i32 x.1, .int .i64 x.2.1, .bool x.2.2]

set_option maxHeartbeats 8000000 in
set_option maxRecDepth 100000 in
theorem step_first.raw (s : ByteArray) (hs : 0 < s.size) (w : World) (hb : ∃ t fr, w.heap[0]? = some (.cells Glob.badC t fr)) :
    Calls Tryd.prog 42 #[.string s] w fun e w' => e = .returned (stepA (stepF s)) ∧ Below w.heap.size w w' := by
  obtain ⟨bt, bfr, hbad⟩ := hb
  have HB := Lib.hid hbad
  clear hbad
  have hrune := fun (n : Int) (w : World) => run_convert_rune (P := Tryd.prog) w 21 9 n Tryd.underlying21 Tryd.underlying9
  go_enter Tryd.func42, Tryd.ntmps42
  go_wp2
  go_loopw [4] (fun _ wr => wr.heap[w.heap.size + 1]? = some (.stringIter s 0) ∧ wr.heap[w.heap.size]? = some (.cells #[.int .i32 0, .int .i64 0, .bool false] 61 (0, 0)) ∧ Below w.heap.size w wr) (fun _ _ => 0)
  case atStart =>
    refine ⟨?_, ?_, (((Below.refl _ w).alloc (Nat.le_refl _) _).alloc (by simp) _)⟩
    · have := World.iter_heap (w.alloc (.cells #[.int .i32 0, .int .i64 0, .bool false] 61)) s 0
      simpa using this
    · exact (Below.heap_alloc _ _ _ (by simp)).trans (heap_alloc_new _ _)
  case round =>
    obtain ⟨hit, hres, hbw⟩ := hrel
    have hnx : ∀ ty, (Instr.next (.pointer (some ⟨w.heap.size + 1, 0, none⟩)) true ty).run Tryd.prog wr = _ := fun ty => Lib.run_next_any_at wr (w.heap.size + 1) s 0 ty hit hs
    have hbw2 := Lib.below_iterAt hbw (k := w.heap.size + 1) (by omega) s (0 + (Utf8.decode s 0).2)
    have hres2 := (Lib.iterAt_other wr (w.heap.size + 1) w.heap.size s (0 + (Utf8.decode s 0).2) (by omega)).trans hres
    obtain ⟨W2, hW2⟩ : ∃ W2, wr.iterAt (w.heap.size + 1) s (0 + (Utf8.decode s 0).2) = W2 := ⟨_, rfl⟩
    rw [hW2] at hbw2 hres2
    have hnx2 := fun ty => (hnx ty).trans (congrArg (Result.ok _) hW2)
    clear hnx hW2 hres hbw hit
    have HBad := (hbw2.block _ (Glob.lt_of_heap HB.out)).trans HB.out
    have hc0 : W2.cell? ⟨w.heap.size, 0, none⟩ = some (.int .i32 0) := by rw [cell_of_row _ _ _ _ _ _ hres2]; rfl
    have hc1 : W2.cell? ⟨w.heap.size, 1, none⟩ = some (.int .i64 0) := by rw [cell_of_row _ _ _ _ _ _ hres2]; rfl
    have hc2 : W2.cell? ⟨w.heap.size, 2, none⟩ = some (.bool false) := by rw [cell_of_row _ _ _ _ _ _ hres2]; rfl
    have hf : ∀ j, W2.frozen? ⟨w.heap.size, j, none⟩ = false := by intro j; simp [World.frozen?, hres2]
    have hg0 : W2.cell? ⟨0, 0, none⟩ = some (.int .i32 65533) := by rw [cell_of_row _ _ _ _ _ _ HBad]; rfl
    have hg1 : W2.cell? ⟨0, 1, none⟩ = some (.int .i64 1) := by rw [cell_of_row _ _ _ _ _ _ HBad]; rfl
    have hg2 : W2.cell? ⟨0, 2, none⟩ = some (.bool false) := by rw [cell_of_row _ _ _ _ _ _ HBad]; rfl
    by_cases hd : ((Utf8.decode s 0).1 : Int) = 65533
    · by_cases hp : Lib.hasPrefix s.data.toList [239, 191, 189] = true
      · go_wp2_with (go_at_call 43; refine (hasPrefix_calls _ _ _).mono ?_; rintro e w' ⟨rfl, rfl⟩)
        refine bodyPost_ret (results_cell_row rfl _ _ w.heap.size 61 #[.int .i32 65533, .int .i64 (strOfRune 65533).size, .bool true] (0, 0) _ rfl (by refine blk_put (cs := #[.int .i32 65533, .int .i64 (strOfRune 65533).size, .bool false]) ?_ 2 _ rfl; refine blk_put (cs := #[.int .i32 65533, .int .i64 0, .bool false]) ?_ 1 _ rfl; refine blk_put (cs := #[.int .i32 0, .int .i64 0, .bool false]) ?_ 0 _ rfl; exact hres2) Tryd.underlying61 rfl (by kernel_rfl)) rfl ?_
        exact ⟨by unfold stepF stepA; rw [if_neg (by rw [hp]; simp), hd], ((hbw2.setCell (p := ⟨w.heap.size, 0, none⟩) (Nat.le_refl _) _).setCell (p := ⟨w.heap.size, 1, none⟩) (Nat.le_refl _) _).setCell (p := ⟨w.heap.size, 2, none⟩) (Nat.le_refl _) _⟩
      · go_wp2_with (go_at_call 43; refine (hasPrefix_calls _ _ _).mono ?_; rintro e w' ⟨rfl, rfl⟩)
        refine bodyPost_ret (results_cell_row rfl _ _ w.heap.size 61 #[.int .i32 65533, .int .i64 1, .bool false] (0, 0) _ rfl (by refine blk_put (cs := #[.int .i32 65533, .int .i64 1, .bool false]) ?_ 2 _ rfl; refine blk_put (cs := #[.int .i32 65533, .int .i64 0, .bool false]) ?_ 1 _ rfl; refine blk_put (cs := #[.int .i32 0, .int .i64 0, .bool false]) ?_ 0 _ rfl; exact hres2) Tryd.underlying61 rfl (by kernel_rfl)) rfl ?_
        exact ⟨by unfold stepF; rw [if_pos ⟨by omega, by simpa using hp⟩]; rfl, ((hbw2.setCell (p := ⟨w.heap.size, 0, none⟩) (Nat.le_refl _) _).setCell (p := ⟨w.heap.size, 1, none⟩) (Nat.le_refl _) _).setCell (p := ⟨w.heap.size, 2, none⟩) (Nat.le_refl _) _⟩
    · go_wp2_with fail
      refine bodyPost_ret (results_cell_row rfl _ _ w.heap.size 61 #[.int .i32 ((Utf8.decode s 0).1 : Nat), .int .i64 (strOfRune ((Utf8.decode s 0).1 : Nat)).size, .bool true] (0, 0) _ rfl (by refine blk_put (cs := #[.int .i32 ((Utf8.decode s 0).1 : Nat), .int .i64 (strOfRune ((Utf8.decode s 0).1 : Nat)).size, .bool false]) ?_ 2 _ rfl; refine blk_put (cs := #[.int .i32 ((Utf8.decode s 0).1 : Nat), .int .i64 0, .bool false]) ?_ 1 _ rfl; refine blk_put (cs := #[.int .i32 0, .int .i64 0, .bool false]) ?_ 0 _ rfl; exact hres2) Tryd.underlying61 rfl (by kernel_rfl)) rfl ?_
      exact ⟨by unfold stepF; rw [if_neg (fun h => hd (by omega))]; rfl, ((hbw2.setCell (p := ⟨w.heap.size, 0, none⟩) (Nat.le_refl _) _).setCell (p := ⟨w.heap.size, 1, none⟩) (Nat.le_refl _) _).setCell (p := ⟨w.heap.size, 2, none⟩) (Nat.le_refl _) _⟩
end Go.Proofs.YtiolhoaoepgmcaaDoor.Pr
