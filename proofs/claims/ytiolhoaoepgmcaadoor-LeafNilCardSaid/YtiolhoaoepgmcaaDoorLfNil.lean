/- The walk of the law LeafNil: a nil leaf. Conditions: step.bad's cells are as laid. -/
import Derived.Test.YtiolhoaoepgmcaaDoorLf5
namespace Go.Proofs.YtiolhoaoepgmcaaDoor.Pr
open Go.RowKit Go.Proofs.YtiolhoaoepgmcaaDoor.Math Go.Proofs.YtiolhoaoepgmcaaDoor.PuMs Go.Proofs.YtiolhoaoepgmcaaDoorW.PrintWords Go.Proofs.YtiolhoaoepgmcaaDoorW.PrintLast Go.Proofs.YtiolhoaoepgmcaaDoorW.PrintMore
set_option linter.unusedVariables false
set_option linter.unusedSimpArgs false
theorem weldOf_nil (w : World) (hG : Glob.Globs w) : Calls Tryd.prog 18 #[.slice none 0 0] w fun e w' => e = .returned (.agg #[.int .i64 0, .int .i64 0, .int .i64 0, .int .i64 0, .string ⟨#[]⟩, .string ⟨#[]⟩]) ∧ Below w.heap.size w w' :=
  weldOf_any none 0 0 [] w rfl (by intro x hx; cases hx) (by decide) hG (Kd.C_nil _ _) (Nat.le_refl _)
set_option maxHeartbeats 8000000 in
set_option maxRecDepth 100000 in
theorem law_LeafNil.calls (n : Int) (w : World) (hG : Glob.Globs w) : Calls Tryd.prog 5 #[.int .i64 n] w fun e w' => e = .returned (.bool true) ∧ Below w.heap.size w w' := by
  have HG := Lib.hid hG
  clear hG
  go_enter Tryd.func5, Tryd.ntmps5
  go_wp2_with (first | (go_at_call 10; (with_reducible refine (law_fixed.calls _ HG.out).mono ?_); rintro e w1 ⟨rfl, hb1⟩; have HB1 := Lib.hid hb1; clear hb1) | (go_at_call 15; (with_reducible refine (leaf_Before.none _ _).mono ?_); rintro e w2 ⟨rfl, hb2⟩; have HB2 := Lib.hid (below_step HB1.out hb2); clear hb2) | (go_at_call 16; (with_reducible refine (leaf_Split.none _ _).mono ?_); rintro e w' ⟨rfl, rfl⟩) | (go_at_call 17; (with_reducible refine (leaf_Bytes.none _).mono ?_); rintro e w' ⟨rfl, rfl⟩) | (go_at_call 12; (with_reducible refine (leaf_Len.none _).mono ?_); rintro e w' ⟨rfl, rfl⟩) | (go_at_call 13; (with_reducible refine (leaf_Weld.none _).mono ?_); rintro e w5 ⟨rfl, hb5⟩; have HK5 := Lib.hid (blk_below (blk_new w2 _) hb5); have HB5 := Lib.hid (below_step HB2.out (below_step ((Below.refl _ w2).alloc (Nat.le_refl _) _) hb5)); clear hb5) | (go_at_call 18; (with_reducible refine (weldOf_nil _ ?side1).mono ?_); (case side1 => exact Glob.Globs_below HG.out HB5.out); rintro e w6 ⟨rfl, hb6⟩; obtain ⟨z0, z1, z2, z3, z4, z5, zf⟩ := wblk (blk_below HK5.out hb6); have HB6 := Lib.hid (below_step HB5.out hb6); clear hb6))
  go_ret
  exact ⟨rfl, HB6.out⟩
theorem law_LeafNil.walk (_ : True) (n : Int) (w : World) (hG : Glob.Globs w) (_ : (Lit.int .i64 n).wf = true) : Calls Tryd.prog 5 #[.int .i64 n] w fun e w' => e = .returned (.bool true) ∧ Below w.heap.size w w' := law_LeafNil.calls n w hG
end Go.Proofs.YtiolhoaoepgmcaaDoor.Pr
