/- The walk of the law LeafNames: the errors' numbers, the limits, and what they refuse. Conditions: step.bad's cells are as laid. -/
import Derived.Test.YtiolhoaoepgmcaaDoorLf5
namespace Go.Proofs.YtiolhoaoepgmcaaDoor.Pr
open Go.RowKit Go.Proofs.YtiolhoaoepgmcaaDoor.Math Go.Proofs.YtiolhoaoepgmcaaDoor.PuMs Go.Proofs.YtiolhoaoepgmcaaDoorW.PrintWords Go.Proofs.YtiolhoaoepgmcaaDoorW.PrintLast Go.Proofs.YtiolhoaoepgmcaaDoorW.PrintMore
set_option linter.unusedVariables false
set_option linter.unusedSimpArgs false
/-- A row of n zeros, just made. -/
theorem C_made (w : World) (n : Nat) (hn : n ≤ 9223372036854775807) :
    Kd.C (Kd.int .u8) (w.alloc (.cells (madeCells #[.int .u8 0] (n * 1)) 5)) (some ⟨w.heap.size, 0, none⟩) (List.replicate n (0 : Int)).length (List.replicate n 0) := by
  refine Kd.C_of_reads (d := (0 : Int)) (h1 := fun _ => rfl) ⟨rfl, by rw [List.length_replicate]; exact hn, fun _ => ⟨_, rfl, fun j hj => ?_⟩⟩
  rw [add_plain, cell_of_row _ _ j _ _ _ (heap_alloc_new w _)]
  rw [List.length_replicate] at hj
  have e : (List.replicate n (0 : Int)).getD j 0 = 0 := by simp [List.getD_eq_getElem?_getD, hj]
  rw [e, Nat.mul_one]
  simp [madeCells, hj, Nat.mod_one, Array.getElem?_eq_getElem]
theorem run_made (w : World) (n : Nat) (hn : n ≤ 1000000) : Sem.run Tryd.prog (Instr.makeSlice 26 (.int .i64 (n : Int)) (.int .i64 (n : Int))) w = .ok (.slice (some ⟨w.heap.size, 0, none⟩) n n) (w.alloc (.cells (madeCells #[.int .u8 0] (n * 1)) 5)) := by
  rw [Nat.mul_one]
  exact run_make_row' (P := Tryd.prog) 26 5 (.int .u8 0) 1 Tryd.underlying26 (by kernel_rfl) rfl .i64 .i64 n (by omega) (by omega) w
theorem new_made (w : World) (hG : Glob.Globs w) (M : Array Value) (hM : M = madeCells #[.int .u8 0] (4096 * 1)) : Calls Tryd.prog 8 #[.slice (some ⟨w.heap.size, 0, none⟩) 4096 4096] (w.alloc (.cells M 5)) fun e w' => ∃ b, e = .returned (.tuple #[lfP b, .int .i64 0]) ∧ Below w.heap.size w w' := by
  have h := leaf_New.calls (some ⟨w.heap.size, 0, none⟩) 4096 (List.replicate 4096 0) (by rw [List.length_replicate]; decide) _ (Glob.Globs_alloc hG _) (C_made w 4096 (by decide))
  rw [List.length_replicate, ← hM] at h
  refine h.mono ?_
  rintro e w' ⟨b, rfl, _, _, hb⟩
  exact ⟨b, rfl, below_step ((Below.refl _ w).alloc (Nat.le_refl _) _) hb⟩
theorem new_over (w W : World) : Calls Tryd.prog 8 #[.slice (some ⟨w.heap.size, 0, none⟩) 4097 4097] W fun e w' => e = .returned (.tuple #[.pointer none, .int .i64 5]) ∧ W = w' :=
  leaf_New.long _ 4097 4097 (by decide) (by decide) W
theorem cut_none (w : World) (hG : Glob.Globs w) : Calls Tryd.prog 9 #[.slice none 0 0, .int .i64 4096] w fun e w' => (∃ c : Nat, ∃ A, e = .returned (.tuple #[.slice A 0 c, .int .i64 0])) ∧ Below w.heap.size w w' := by
  refine (leaf_Cut.ok none 0 [] 4096 (by decide) (by decide) (by decide) (by intro x hx; cases hx) w hG (Kd.C_nil _ _) (Nat.le_refl _)).mono ?_
  rintro e w' ⟨v, rfl, hR, hb⟩
  refine ⟨?_, hb⟩
  obtain ⟨_, inner, ho, hr⟩ := hR
  rcases ho.2 with ⟨rfl, h0⟩ | ⟨g, cap, cur, rfl, hg, hh, h1, h2, h3, h4⟩
  · exact ⟨0, none, rfl⟩
  · exact ⟨cap, some ⟨g, 0, none⟩, rfl⟩
set_option maxHeartbeats 8000000 in
set_option maxRecDepth 100000 in
theorem law_LeafNames.walk (_ : True) (w : World) (hG : Glob.Globs w) : Calls Tryd.prog 3 #[] w fun e w' => e = .returned (.bool true) ∧ Below w.heap.size w w' := by
  have HG := Lib.hid hG
  clear hG
  obtain ⟨M1, hM1⟩ : ∃ M, M = madeCells #[.int .u8 0] (4097 * 1) := ⟨_, rfl⟩
  obtain ⟨M2, hM2⟩ : ∃ M, M = madeCells #[.int .u8 0] (4096 * 1) := ⟨_, rfl⟩
  have hm1 : ∀ w : World, Sem.run Tryd.prog (Instr.makeSlice 26 (.int .i64 4097) (.int .i64 4097)) w = .ok (.slice (some ⟨w.heap.size, 0, none⟩) 4097 4097) (w.alloc (.cells M1 5)) := fun w => hM1 ▸ run_made w 4097 (by decide)
  have hm2 : ∀ w : World, Sem.run Tryd.prog (Instr.makeSlice 26 (.int .i64 4096) (.int .i64 4096)) w = .ok (.slice (some ⟨w.heap.size, 0, none⟩) 4096 4096) (w.alloc (.cells M2 5)) := fun w => hM2 ▸ run_made w 4096 (by decide)
  have HM2 := Lib.hid hM2
  clear hM1 hM2
  go_enter Tryd.func3, Tryd.ntmps3
  go_wp2_with fail
  with_reducible refine (new_over w _).mono ?_
  rintro e w1 ⟨rfl, hw1⟩
  have HB1 := Lib.hid (show Below w.heap.size w w1 from hw1 ▸ (Below.refl _ w).alloc (Nat.le_refl _) _)
  clear hw1
  go_wp2_with fail
  with_reducible refine (new_made w1 (Glob.Globs_below HG.out HB1.out) M2 HM2.out).mono ?_
  rintro e w2 ⟨b, rfl, hb2⟩
  have HB2 := Lib.hid (below_step HB1.out hb2)
  clear hb2
  go_wp2_with fail
  with_reducible refine (leaf_Cut.bad none 0 0 0 (by decide) _).mono ?_
  rintro e w' ⟨rfl, rfl⟩
  go_wp2_with fail
  with_reducible refine (leaf_Cut.bad none 0 0 4097 (by decide) _).mono ?_
  rintro e w' ⟨rfl, rfl⟩
  go_wp2_with fail
  with_reducible refine (cut_none _ (Glob.Globs_below HG.out HB2.out)).mono ?_
  rintro e w3 ⟨⟨c, A, rfl⟩, hb3⟩
  have HB3 := Lib.hid (below_step HB2.out hb3)
  clear hb3
  go_wp2_with (first | (go_at_call 10; (with_reducible refine (law_fixed.calls _ ?side1).mono ?_); (case side1 => exact Glob.Globs_below HG.out HB3.out); rintro e w4 ⟨rfl, hb4⟩; have HB4 := Lib.hid (below_step HB3.out hb4); clear hb4))
  go_ret
  exact ⟨rfl, HB4.out⟩
end Go.Proofs.YtiolhoaoepgmcaaDoor.Pr
