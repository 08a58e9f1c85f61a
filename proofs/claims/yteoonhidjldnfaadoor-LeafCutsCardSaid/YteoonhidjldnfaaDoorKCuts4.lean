/- Part 4 of the lemmas on which the card leafCuts_card stands (its sentence and conditions stand in the last text). Conditions: as each lemma says. -/
import Derived.Test.YteoonhidjldnfaaDoorKCuts3
import Derived.Deep.RegionHeld3
import Derived.SizedLaws
import Derived.ChangeSlices
namespace Go.Proofs.YteoonhidjldnfaaDoor.Pr
open Go.RowKit Go.Proofs.YteoonhidjldnfaaDoorW.PrintWords Go.Proofs.YteoonhidjldnfaaDoorW.PrintLast Go.Proofs.YteoonhidjldnfaaDoorW.PrintMore
attribute [local go_sem] max2_int min2_int max_two min_two max_three min_three max_four min_four   -- for this text's walks alone
set_option linter.unusedVariables false
set_option linter.unusedSimpArgs false
def weld_Join.f (k : Nat) (a0_0 : Int) (a0_1 : Int) (a0_2 : Int) (a0_3 : Int) (a0_4 : ByteArray) (a0_5 : ByteArray) (a1_0 : Int) (a1_1 : Int) (a1_2 : Int) (a1_3 : Int) (a1_4 : ByteArray) (a1_5 : ByteArray) : Option (Int × Int × Int × Int × ByteArray × ByteArray × Int) := (weld_both.f k a0_0 a0_1 a0_2 a0_3 a0_4 a0_5 a1_0 a1_1 a1_2 a1_3 a1_4 a1_5).bind fun bt284 => (some (bt284.1, bt284.2.1, bt284.2.2.1, bt284.2.2.2.1, bt284.2.2.2.2.1, bt284.2.2.2.2.2.1, bt284.2.2.2.2.2.2.2.2.2.2))
set_option maxHeartbeats 8000000 in
set_option maxRecDepth 100000 in
theorem weld_Join.calls (k : Nat) (a0_0 : Int) (a0_1 : Int) (a0_2 : Int) (a0_3 : Int) (a0_4 : ByteArray) (a0_5 : ByteArray) (a1_0 : Int) (a1_1 : Int) (a1_2 : Int) (a1_3 : Int) (a1_4 : ByteArray) (a1_5 : ByteArray) (r1 : Int) (r2 : Int) (r3 : Int) (r4 : Int) (r5 : ByteArray) (r6 : ByteArray) (r7 : Int) (w : World) (hG : Glob.Globs w) (h : weld_Join.f k a0_0 a0_1 a0_2 a0_3 a0_4 a0_5 a1_0 a1_1 a1_2 a1_3 a1_4 a1_5 = some (r1, r2, r3, r4, r5, r6, r7)) :
  Calls Tryd.prog 26 #[.agg #[.int .i64 a0_0, .int .i64 a0_1, .int .i64 a0_2, .int .i64 a0_3, .string a0_4, .string a0_5], .agg #[.int .i64 a1_0, .int .i64 a1_1, .int .i64 a1_2, .int .i64 a1_3, .string a1_4, .string a1_5]] w fun e w' => e = .returned (.tuple #[.agg #[.int .i64 r1, .int .i64 r2, .int .i64 r3, .int .i64 r4, .string r5, .string r6], .int .i64 r7]) ∧ Below w.heap.size w w' := by
 have hu36 := Tryd.underlying36
 have hu34 := Tryd.underlying34
 have HG := Aside0.mk hG; clear hG
 have HB := Aside0.mk (Below.refl w.heap.size w)
 have H : ((weld_both.f k a0_0 a0_1 a0_2 a0_3 a0_4 a0_5 a1_0 a1_1 a1_2 a1_3 a1_4 a1_5).bind fun bt284 => (some (bt284.1, bt284.2.1, bt284.2.2.1, bt284.2.2.2.1, bt284.2.2.2.2.1, bt284.2.2.2.2.2.1, bt284.2.2.2.2.2.2.2.2.2.2))) = some (r1, r2, r3, r4, r5, r6, r7) := h
 clear h
 replace H := Option.bind_eq_some_iff.mp H
 obtain ⟨⟨t284, t285, t286, t287, t288, t289, t290, t291, t292, t293, t294⟩, A30, H⟩ := H
 have A3 := Aside0.mk A30; clear A30
 simp only [Option.some.injEq, Prod.mk.injEq] at H
 obtain ⟨rfl, rfl, rfl, rfl, rfl, rfl, rfl⟩ := H
 go_enter Tryd.func26, Tryd.ntmps26
 go_wp2_with (first | ((with_reducible refine gate_dst (N := 2) rfl ?_); refine box_event ?hg (N := 2) ?hd (cs := #[.int .i64 a0_0, .int .i64 a0_1, .int .i64 a0_2, .int .i64 a0_3, .string a0_4, .string a0_5]) (t := 36) ?hr ?_; (case hd => rfl); (case hg => rfl); (case hr => first | (go_simp; done) | (go_simp; rfl)); intro gb281 hg w4 hbox hb; have n0_ := Aside0.mk (below_step (bl HB.out) hb); have n1_ := Aside0.mk (hbox); have n2_ := Aside0.mk ((by rw [hg]; exact (below_size (bl HB.out)) : w.heap.size ≤ gb281)); have n3_ := Aside0.mk ((by rw [hg]; exact (below_size (bl HB.out)) : w.heap.size ≤ gb281)); clear HB; have HB := n0_; have BK281 := n1_; have GW281 := n2_; have GE281 := n3_; clear n0_ n1_ n2_ n3_; clear hb hbox hg) | ((with_reducible refine gate_dst (N := 3) rfl ?_); refine box_event ?hg (N := 3) ?hd (cs := #[.int .i64 a1_0, .int .i64 a1_1, .int .i64 a1_2, .int .i64 a1_3, .string a1_4, .string a1_5]) (t := 36) ?hr ?_; (case hd => rfl); (case hg => rfl); (case hr => first | (go_simp; done) | (go_simp; rfl)); intro gb282 hg w5 hbox hb; have n0_ := Aside0.mk (blk_below (pl BK281.out) hb); have n1_ := Aside0.mk (below_step (by repeat (first | (with_reducible first | exact HB.out | apply below_alloc | apply pw_below_drewN | apply below_drew1 | refine below_set ?_ GE281.out) | exact HB.out)) hb); have n2_ := Aside0.mk (hbox); have n3_ := Aside0.mk ((by rw [hg]; exact (below_size (by repeat (first | (with_reducible first | exact HB.out | apply below_alloc | apply pw_below_drewN | apply below_drew1 | refine below_set ?_ GE281.out) | exact HB.out))) : w.heap.size ≤ gb282)); have n4_ := Aside0.mk ((by rw [hg]; exact (below_size (by repeat (first | (with_reducible first | exact HB.out | apply below_alloc | apply pw_below_drewN | apply below_drew1 | refine below_set ?_ GE281.out) | exact HB.out))) : w.heap.size ≤ gb282)); have n5_ := Aside0.mk ((by rw [hg]; exact Nat.ne_of_lt (blk_lt (pl BK281.out)) : gb281 ≠ gb282)); have n6_ := Aside0.mk ((by rw [hg]; exact Nat.ne_of_gt (blk_lt (pl BK281.out)) : gb282 ≠ gb281)); clear BK281; clear HB; have BK281 := n0_; have HB := n1_; have BK282 := n2_; have GW282 := n3_; have GE282 := n4_; have NB281_282 := n5_; have NB282_281 := n6_; clear n0_ n1_ n2_ n3_ n4_ n5_ n6_; clear hb hbox hg) | ((with_reducible refine gate_dst (N := 4) rfl ?_); refine box_event ?hg (N := 4) ?hd (cs := #[.int .i64 0, .int .i64 0, .int .i64 0, .int .i64 0, .string (⟨#[]⟩ : ByteArray), .string (⟨#[]⟩ : ByteArray)]) (t := 36) ?hr ?_; (case hd => rfl); (case hg => rfl); (case hr => first | (go_simp; done) | (go_simp; rfl)); intro gb283 hg w6 hbox hb; have n0_ := Aside0.mk (blk_below (pl BK281.out) hb); have n1_ := Aside0.mk (blk_below (pl BK282.out) hb); have n2_ := Aside0.mk (below_step (by repeat (first | (with_reducible first | exact HB.out | apply below_alloc | apply pw_below_drewN | apply below_drew1 | refine below_set ?_ GE281.out | refine below_set ?_ GE282.out) | exact HB.out)) hb); have n3_ := Aside0.mk (hbox); have n4_ := Aside0.mk ((by rw [hg]; exact (below_size (by repeat (first | (with_reducible first | exact HB.out | apply below_alloc | apply pw_below_drewN | apply below_drew1 | refine below_set ?_ GE281.out | refine below_set ?_ GE282.out) | exact HB.out))) : w.heap.size ≤ gb283)); have n5_ := Aside0.mk ((by rw [hg]; exact (below_size (by repeat (first | (with_reducible first | exact HB.out | apply below_alloc | apply pw_below_drewN | apply below_drew1 | refine below_set ?_ GE281.out | refine below_set ?_ GE282.out) | exact HB.out))) : w.heap.size ≤ gb283)); have n6_ := Aside0.mk ((by rw [hg]; exact Nat.ne_of_lt (blk_lt (pl BK281.out)) : gb281 ≠ gb283)); have n7_ := Aside0.mk ((by rw [hg]; exact Nat.ne_of_gt (blk_lt (pl BK281.out)) : gb283 ≠ gb281)); have n8_ := Aside0.mk ((by rw [hg]; exact Nat.ne_of_lt (blk_lt (pl BK282.out)) : gb282 ≠ gb283)); have n9_ := Aside0.mk ((by rw [hg]; exact Nat.ne_of_gt (blk_lt (pl BK282.out)) : gb283 ≠ gb282)); clear BK281; clear BK282; clear HB; have BK281 := n0_; have BK282 := n1_; have HB := n2_; have BK283 := n3_; have GW283 := n4_; have GE283 := n5_; have NB281_283 := n6_; have NB283_281 := n7_; have NB282_283 := n8_; have NB283_282 := n9_; clear n0_ n1_ n2_ n3_ n4_ n5_ n6_ n7_ n8_ n9_; clear hb hbox hg; have hnb7 := NB281_282.out; have hnc7 := NB282_281.out; have hnb8 := NB281_283.out; have hnc8 := NB283_281.out; obtain ⟨hcz9_0, hcz9_1, hcz9_2, hcz9_3, hcz9_4, hcz9_5⟩ := cl6 BK281.out; obtain ⟨hfz9_0, hfz9_1, hfz9_2, hfz9_3, hfz9_4, hfz9_5⟩ := fl6 BK281.out; have hnb10 := NB282_283.out; have hnc10 := NB283_282.out; obtain ⟨hcz11_0, hcz11_1, hcz11_2, hcz11_3, hcz11_4, hcz11_5⟩ := cl6 BK282.out; obtain ⟨hfz11_0, hfz11_1, hfz11_2, hfz11_3, hfz11_4, hfz11_5⟩ := fl6 BK282.out) | ((with_reducible refine gate_callee (f := 36) rfl ?_); refine goesL_ (some 12) rfl rfl Tryd.func36 (by kernel_rfl) rfl #[.agg #[.int .i64 a0_0, .int .i64 a0_1, .int .i64 a0_2, .int .i64 a0_3, .string a0_4, .string a0_5], .agg #[.int .i64 a1_0, .int .i64 a1_1, .int .i64 a1_2, .int .i64 a1_3, .string a1_4, .string a1_5]] rfl (by (try simp only [List.map_toArray, List.map_cons, List.map_nil]); first | done | rfl | (simp only [List.length_drop, List.length_take]; rfl)) ?_; (with_reducible refine (weld_both.calls k a0_0 a0_1 a0_2 a0_3 a0_4 a0_5 a1_0 a1_1 a1_2 a1_3 a1_4 a1_5 t284 t285 t286 t287 t288 t289 t290 t291 t292 t293 t294 _ ?side1 A3.out).mono ?_); (case side1 => first | (with_reducible exact HG.out) | exact Glob.Globs_below HG.out (by repeat (first | (with_reducible first | exact HB.out | apply below_alloc | apply pw_below_drewN | apply below_drew1 | refine below_set ?_ GE281.out | refine below_set ?_ GE282.out | refine below_set ?_ GE283.out) | exact HB.out))); rintro e w12 ⟨rfl, hb⟩; refine ⟨_, rfl, ?_⟩; have n0_ := Aside0.mk (blk_below (pl BK281.out) hb); have n1_ := Aside0.mk (blk_below (pl BK282.out) hb); have n2_ := Aside0.mk (blk_below (pl BK283.out) hb); have n3_ := Aside0.mk (below_step (by repeat (first | (with_reducible first | exact HB.out | apply below_alloc | apply pw_below_drewN | apply below_drew1 | refine below_set ?_ GE281.out | refine below_set ?_ GE282.out | refine below_set ?_ GE283.out) | exact HB.out)) hb); clear BK281; clear BK282; clear BK283; clear HB; have BK281 := n0_; have BK282 := n1_; have BK283 := n2_; have HB := n3_; clear n0_ n1_ n2_ n3_; (try clear hb); (try clear hb2); (try clear hk); (try clear hi)) | ((with_reducible refine gate_dst (N := 6) rfl ?_); refine box_event ?hg (N := 6) ?hd (cs := #[.int .i64 0, .int .i64 0, .int .i64 0, .int .i64 0, .string (⟨#[]⟩ : ByteArray), .string (⟨#[]⟩ : ByteArray)]) (t := 36) ?hr ?_; (case hd => rfl); (case hg => rfl); (case hr => first | (go_simp; done) | (go_simp; rfl)); intro gb295 hg w13 hbox hb; have n0_ := Aside0.mk (blk_below (pl BK281.out) hb); have n1_ := Aside0.mk (blk_below (pl BK282.out) hb); have n2_ := Aside0.mk (blk_below (pl BK283.out) hb); have n3_ := Aside0.mk (below_step (by repeat (first | (with_reducible first | exact HB.out | apply below_alloc | apply pw_below_drewN | apply below_drew1 | refine below_set ?_ GE281.out | refine below_set ?_ GE282.out | refine below_set ?_ GE283.out) | exact HB.out)) hb); have n4_ := Aside0.mk (hbox); have n5_ := Aside0.mk ((by rw [hg]; exact (below_size (by repeat (first | (with_reducible first | exact HB.out | apply below_alloc | apply pw_below_drewN | apply below_drew1 | refine below_set ?_ GE281.out | refine below_set ?_ GE282.out | refine below_set ?_ GE283.out) | exact HB.out))) : w.heap.size ≤ gb295)); have n6_ := Aside0.mk ((by rw [hg]; exact (below_size (by repeat (first | (with_reducible first | exact HB.out | apply below_alloc | apply pw_below_drewN | apply below_drew1 | refine below_set ?_ GE281.out | refine below_set ?_ GE282.out | refine below_set ?_ GE283.out) | exact HB.out))) : w.heap.size ≤ gb295)); have n7_ := Aside0.mk ((by rw [hg]; exact Nat.ne_of_lt (blk_lt (pl BK281.out)) : gb281 ≠ gb295)); have n8_ := Aside0.mk ((by rw [hg]; exact Nat.ne_of_gt (blk_lt (pl BK281.out)) : gb295 ≠ gb281)); have n9_ := Aside0.mk ((by rw [hg]; exact Nat.ne_of_lt (blk_lt (pl BK282.out)) : gb282 ≠ gb295)); have n10_ := Aside0.mk ((by rw [hg]; exact Nat.ne_of_gt (blk_lt (pl BK282.out)) : gb295 ≠ gb282)); have n11_ := Aside0.mk ((by rw [hg]; exact Nat.ne_of_lt (blk_lt (pl BK283.out)) : gb283 ≠ gb295)); have n12_ := Aside0.mk ((by rw [hg]; exact Nat.ne_of_gt (blk_lt (pl BK283.out)) : gb295 ≠ gb283)); clear BK281; clear BK282; clear BK283; clear HB; have BK281 := n0_; have BK282 := n1_; have BK283 := n2_; have HB := n3_; have BK295 := n4_; have GW295 := n5_; have GE295 := n6_; have NB281_295 := n7_; have NB295_281 := n8_; have NB282_295 := n9_; have NB295_282 := n10_; have NB283_295 := n11_; have NB295_283 := n12_; clear n0_ n1_ n2_ n3_ n4_ n5_ n6_ n7_ n8_ n9_ n10_ n11_ n12_; clear hb hbox hg) | ((with_reducible refine gate_dst (N := 7) rfl ?_); refine box_event ?hg (N := 7) ?hd (cs := #[.int .i64 0, .int .i64 0, .int .i64 0, .int .i64 0]) (t := 34) ?hr ?_; (case hd => rfl); (case hg => rfl); (case hr => first | (go_simp; done) | (go_simp; rfl)); intro gb296 hg w14 hbox hb; have n0_ := Aside0.mk (blk_below (pl BK281.out) hb); have n1_ := Aside0.mk (blk_below (pl BK282.out) hb); have n2_ := Aside0.mk (blk_below (pl BK283.out) hb); have n3_ := Aside0.mk (blk_below (pl BK295.out) hb); have n4_ := Aside0.mk (below_step (by repeat (first | (with_reducible first | exact HB.out | apply below_alloc | apply pw_below_drewN | apply below_drew1 | refine below_set ?_ GE281.out | refine below_set ?_ GE282.out | refine below_set ?_ GE283.out | refine below_set ?_ GE295.out) | exact HB.out)) hb); have n5_ := Aside0.mk (hbox); have n6_ := Aside0.mk ((by rw [hg]; exact (below_size (by repeat (first | (with_reducible first | exact HB.out | apply below_alloc | apply pw_below_drewN | apply below_drew1 | refine below_set ?_ GE281.out | refine below_set ?_ GE282.out | refine below_set ?_ GE283.out | refine below_set ?_ GE295.out) | exact HB.out))) : w.heap.size ≤ gb296)); have n7_ := Aside0.mk ((by rw [hg]; exact (below_size (by repeat (first | (with_reducible first | exact HB.out | apply below_alloc | apply pw_below_drewN | apply below_drew1 | refine below_set ?_ GE281.out | refine below_set ?_ GE282.out | refine below_set ?_ GE283.out | refine below_set ?_ GE295.out) | exact HB.out))) : w.heap.size ≤ gb296)); have n8_ := Aside0.mk ((by rw [hg]; exact Nat.ne_of_lt (blk_lt (pl BK281.out)) : gb281 ≠ gb296)); have n9_ := Aside0.mk ((by rw [hg]; exact Nat.ne_of_gt (blk_lt (pl BK281.out)) : gb296 ≠ gb281)); have n10_ := Aside0.mk ((by rw [hg]; exact Nat.ne_of_lt (blk_lt (pl BK282.out)) : gb282 ≠ gb296)); have n11_ := Aside0.mk ((by rw [hg]; exact Nat.ne_of_gt (blk_lt (pl BK282.out)) : gb296 ≠ gb282)); have n12_ := Aside0.mk ((by rw [hg]; exact Nat.ne_of_lt (blk_lt (pl BK283.out)) : gb283 ≠ gb296)); have n13_ := Aside0.mk ((by rw [hg]; exact Nat.ne_of_gt (blk_lt (pl BK283.out)) : gb296 ≠ gb283)); have n14_ := Aside0.mk ((by rw [hg]; exact Nat.ne_of_lt (blk_lt (pl BK295.out)) : gb295 ≠ gb296)); have n15_ := Aside0.mk ((by rw [hg]; exact Nat.ne_of_gt (blk_lt (pl BK295.out)) : gb296 ≠ gb295)); clear BK281; clear BK282; clear BK283; clear BK295; clear HB; have BK281 := n0_; have BK282 := n1_; have BK283 := n2_; have BK295 := n3_; have HB := n4_; have BK296 := n5_; have GW296 := n6_; have GE296 := n7_; have NB281_296 := n8_; have NB296_281 := n9_; have NB282_296 := n10_; have NB296_282 := n11_; have NB283_296 := n12_; have NB296_283 := n13_; have NB295_296 := n14_; have NB296_295 := n15_; clear n0_ n1_ n2_ n3_ n4_ n5_ n6_ n7_ n8_ n9_ n10_ n11_ n12_ n13_ n14_ n15_; clear hb hbox hg; have hnb15 := NB295_281.out; have hnc15 := NB281_295.out; have hnb16 := NB295_282.out; have hnc16 := NB282_295.out; have hnb17 := NB295_283.out; have hnc17 := NB283_295.out; have hnb18 := NB295_296.out; have hnc18 := NB296_295.out; obtain ⟨hcz19_0, hcz19_1, hcz19_2, hcz19_3, hcz19_4, hcz19_5⟩ := cl6 BK295.out; obtain ⟨hfz19_0, hfz19_1, hfz19_2, hfz19_3, hfz19_4, hfz19_5⟩ := fl6 BK295.out; have hnb20 := NB296_281.out; have hnc20 := NB281_296.out; have hnb21 := NB296_282.out; have hnc21 := NB282_296.out; have hnb22 := NB296_283.out; have hnc22 := NB283_296.out; obtain ⟨hcz23_0, hcz23_1, hcz23_2, hcz23_3⟩ := cl4 BK296.out; obtain ⟨hfz23_0, hfz23_1, hfz23_2, hfz23_3⟩ := fl4 BK296.out; obtain ⟨hcz24_0, hcz24_1, hcz24_2, hcz24_3, hcz24_4, hcz24_5⟩ := cl6 BK283.out; obtain ⟨hfz24_0, hfz24_1, hfz24_2, hfz24_3, hfz24_4, hfz24_5⟩ := fl6 BK283.out))
 refine bodyPost_ret (results_ct rfl _ _ gb283 36 #[.int .i64 t284, .int .i64 t285, .int .i64 t286, .int .i64 t287, .string t288, .string t289] (0, 0) _ rfl (by refine pl ?_; refine blk_put (cs := #[.int .i64 t284, .int .i64 t285, .int .i64 t286, .int .i64 t287, .string t288, .string (⟨#[]⟩ : ByteArray)]) ?_ 5 _ rfl; refine pl ?_; refine blk_put (cs := #[.int .i64 t284, .int .i64 t285, .int .i64 t286, .int .i64 t287, .string (⟨#[]⟩ : ByteArray), .string (⟨#[]⟩ : ByteArray)]) ?_ 4 _ rfl; refine pl ?_; refine blk_put (cs := #[.int .i64 t284, .int .i64 t285, .int .i64 t286, .int .i64 0, .string (⟨#[]⟩ : ByteArray), .string (⟨#[]⟩ : ByteArray)]) ?_ 3 _ rfl; refine pl ?_; refine blk_put (cs := #[.int .i64 t284, .int .i64 t285, .int .i64 0, .int .i64 0, .string (⟨#[]⟩ : ByteArray), .string (⟨#[]⟩ : ByteArray)]) ?_ 2 _ rfl; refine pl ?_; refine blk_put (cs := #[.int .i64 t284, .int .i64 0, .int .i64 0, .int .i64 0, .string (⟨#[]⟩ : ByteArray), .string (⟨#[]⟩ : ByteArray)]) ?_ 1 _ rfl; refine pl ?_; refine blk_put (cs := #[.int .i64 0, .int .i64 0, .int .i64 0, .int .i64 0, .string (⟨#[]⟩ : ByteArray), .string (⟨#[]⟩ : ByteArray)]) ?_ 0 _ rfl; refine pl ?_; refine blk_far ?_ NB283_296.out _; refine pl ?_; refine blk_far ?_ NB283_296.out _; refine pl ?_; refine blk_far ?_ NB283_296.out _; refine pl ?_; refine blk_far ?_ NB283_296.out _; refine pl ?_; refine blk_far ?_ NB283_295.out _; refine pl ?_; refine blk_far ?_ NB283_295.out _; refine pl ?_; refine blk_far ?_ NB283_295.out _; refine pl ?_; refine blk_far ?_ NB283_295.out _; refine pl ?_; refine blk_far ?_ NB283_295.out _; refine pl ?_; refine blk_far ?_ NB283_295.out _; refine pl ?_; exact BK283.out) Tryd.underlying36 rfl (by kernel_rfl)) rfl ?_
 exact ⟨by first | rfl | (simp [errW_none, errW_some] <;> rfl) | (simp [*, errW_none, errW_some] <;> rfl), by repeat (first | (with_reducible first | exact HB.out | apply below_alloc | apply pw_below_drewN | apply below_drew1 | refine below_set ?_ GE281.out | refine below_set ?_ GE282.out | refine below_set ?_ GE283.out | refine below_set ?_ GE295.out | refine below_set ?_ GE296.out) | exact HB.out)⟩
def weld_Sum.l0 : Nat → List (S36) → Int → Int → Int → Int → Int → Int → ByteArray → ByteArray → Option (Int × Int × Int × Int × ByteArray × ByteArray × Int)
 | 0, _, _, _, _, _, _, _, _, _ => none
 | k + 1, x9, x10, x11, x299000, x299001, x299002, x299003, x299004, x299005 => if x11 < x10 then (if 0 ≤ x11 then (if x11 < (x9.length : Int) then ((weld_Join.f k x299000 x299001 x299002 x299003 x299004 x299005 ((rd_T36 x9 x11).f0.f0) ((rd_T36 x9 x11).f0.f1) ((rd_T36 x9 x11).f0.f2) ((rd_T36 x9 x11).f0.f3) ((rd_T36 x9 x11).f1) ((rd_T36 x9 x11).f2)).bind fun bt301 => (if bt301.2.2.2.2.2.2 = 0 then (weld_Sum.l0 k x9 x10 (wrap64 (x11 + 1)) bt301.1 bt301.2.1 bt301.2.2.1 bt301.2.2.2.1 bt301.2.2.2.2.1 bt301.2.2.2.2.2.1) else (some (0, 0, 0, 0, (⟨#[]⟩ : ByteArray), (⟨#[]⟩ : ByteArray), bt301.2.2.2.2.2.2)))) else (none)) else (none)) else (some (x299000, x299001, x299002, x299003, x299004, x299005, 0))
def weld_Sum.f (k : Nat) (l0 : List (S36)) : Option (Int × Int × Int × Int × ByteArray × ByteArray × Int) := weld_Sum.l0 k l0 (l0.length : Int) 0 0 0 0 0 (⟨#[]⟩ : ByteArray) (⟨#[]⟩ : ByteArray)
set_option maxHeartbeats 8000000 in
set_option maxRecDepth 100000 in
theorem weld_Sum.calls (k : Nat) (A0 : Option Addr) (c0 : Nat) (l0 : List (S36)) (r1 : Int) (r2 : Int) (r3 : Int) (r4 : Int) (r5 : ByteArray) (r6 : ByteArray) (r7 : Int) (w : World) (hG : Glob.Globs w) (hr0 : Kd.C k36 w A0 l0.length l0) (hc0 : l0.length ≤ c0) (h : weld_Sum.f k l0 = some (r1, r2, r3, r4, r5, r6, r7)) :
  Calls Tryd.prog 24 #[.slice A0 l0.length c0] w fun e w' => e = .returned (.tuple #[.agg #[.int .i64 r1, .int .i64 r2, .int .i64 r3, .int .i64 r4, .string r5, .string r6], .int .i64 r7]) ∧ Below w.heap.size w w' := by
 have hu36 := Tryd.underlying36
 have HG := Aside0.mk hG; clear hG; have HR0 := Aside0.mk hr0; have HC0 := Aside0.mk hc0; clear hr0 hc0
 have HB := Aside0.mk (Below.refl w.heap.size w)
 have H : (weld_Sum.l0 k l0 (l0.length : Int) 0 0 0 0 0 (⟨#[]⟩ : ByteArray) (⟨#[]⟩ : ByteArray)) = some (r1, r2, r3, r4, r5, r6, r7) := h
 clear h; have H' := Aside0.mk H; clear H
 go_enter Tryd.func24, Tryd.ntmps24
 go_wp2_with (first | ((with_reducible refine gate_dst (N := 2) rfl ?_); refine box_event ?hg (N := 2) ?hd (cs := #[.int .i64 0, .int .i64 0, .int .i64 0, .int .i64 0, .string (⟨#[]⟩ : ByteArray), .string (⟨#[]⟩ : ByteArray)]) (t := 36) ?hr ?_; (case hd => rfl); (case hg => rfl); (case hr => first | (go_simp; done) | (go_simp; rfl)); intro gb297 hg w2 hbox hb; have n0_ := Aside0.mk (below_step (bl HB.out) hb); have n1_ := Aside0.mk (hbox); have n2_ := Aside0.mk ((by rw [hg]; exact (below_size (bl HB.out)) : w.heap.size ≤ gb297)); have n3_ := Aside0.mk ((by rw [hg]; exact (below_size (bl HB.out)) : w.heap.size ≤ gb297)); clear HB; have HB := n0_; have BK297 := n1_; have GW297 := n2_; have GE297 := n3_; clear n0_ n1_ n2_ n3_; clear hb hbox hg) | ((with_reducible refine gate_dst (N := 4) rfl ?_); refine box_event ?hg (N := 4) ?hd (cs := #[.int .i64 0, .int .i64 0, .int .i64 0, .int .i64 0, .string (⟨#[]⟩ : ByteArray), .string (⟨#[]⟩ : ByteArray)]) (t := 36) ?hr ?_; (case hd => rfl); (case hg => rfl); (case hr => first | (go_simp; done) | (go_simp; rfl)); intro gb298 hg w3 hbox hb; have n0_ := Aside0.mk (blk_below (pl BK297.out) hb); have n1_ := Aside0.mk (below_step (by repeat (first | (with_reducible first | exact HB.out | apply below_alloc | apply pw_below_drewN | apply below_drew1 | refine below_set ?_ GE297.out) | exact HB.out)) hb); have n2_ := Aside0.mk (hbox); have n3_ := Aside0.mk ((by rw [hg]; exact (below_size (by repeat (first | (with_reducible first | exact HB.out | apply below_alloc | apply pw_below_drewN | apply below_drew1 | refine below_set ?_ GE297.out) | exact HB.out))) : w.heap.size ≤ gb298)); have n4_ := Aside0.mk ((by rw [hg]; exact (below_size (by repeat (first | (with_reducible first | exact HB.out | apply below_alloc | apply pw_below_drewN | apply below_drew1 | refine below_set ?_ GE297.out) | exact HB.out))) : w.heap.size ≤ gb298)); have n5_ := Aside0.mk ((by rw [hg]; exact Nat.ne_of_lt (blk_lt (pl BK297.out)) : gb297 ≠ gb298)); have n6_ := Aside0.mk ((by rw [hg]; exact Nat.ne_of_gt (blk_lt (pl BK297.out)) : gb298 ≠ gb297)); clear BK297; clear HB; have BK297 := n0_; have HB := n1_; have BK298 := n2_; have GW298 := n3_; have GE298 := n4_; have NB297_298 := n5_; have NB298_297 := n6_; clear n0_ n1_ n2_ n3_ n4_ n5_ n6_; clear hb hbox hg))
 go_loopg [11] k (fun kq v11 w' => ∃ (x11_1 : Int) (x298000_1 : Int) (x298001_1 : Int) (x298002_1 : Int) (x298003_1 : Int) (x298004_1 : ByteArray) (x298005_1 : ByteArray) (x299000_1 : Int) (x299001_1 : Int) (x299002_1 : Int) (x299003_1 : Int) (x299004_1 : ByteArray) (x299005_1 : ByteArray), v11 = .int .i64 x11_1 ∧ Aside0 (weld_Sum.l0 kq l0 (l0.length : Int) x11_1 x299000_1 x299001_1 x299002_1 x299003_1 x299004_1 x299005_1 = some (r1, r2, r3, r4, r5, r6, r7)) ∧ Aside0 (kq ≤ k) ∧ Aside0 (w'.heap[gb297]? = some (.cells #[.int .i64 x298000_1, .int .i64 x298001_1, .int .i64 x298002_1, .int .i64 x298003_1, .string x298004_1, .string x298005_1] 36 (0, 0))) ∧ Aside0 (w'.heap[gb298]? = some (.cells #[.int .i64 x299000_1, .int .i64 x299001_1, .int .i64 x299002_1, .int .i64 x299003_1, .string x299004_1, .string x299005_1] 36 (0, 0))) ∧ Aside0 (Below w.heap.size w w'))
 case atStart => exact ⟨(0), (0), (0), (0), (0), ((⟨#[]⟩ : ByteArray)), ((⟨#[]⟩ : ByteArray)), (0), (0), (0), (0), ((⟨#[]⟩ : ByteArray)), ((⟨#[]⟩ : ByteArray)), (by first | rfl | (simp; done) | (simp [*]; done)), H', ⟨Nat.le_refl _⟩, ⟨pl BK297.out⟩, ⟨pl BK298.out⟩, ⟨by repeat (first | (with_reducible first | exact HB.out | apply below_alloc | apply pw_below_drewN | apply below_drew1 | refine below_set ?_ GE297.out | refine below_set ?_ GE298.out) | exact HB.out)⟩⟩
 case round =>
  clear H'
  (try clear c2); (try clear p2)
  obtain ⟨x11_1, x298000_1, x298001_1, x298002_1, x298003_1, x298004_1, x298005_1, x299000_1, x299001_1, x299002_1, x299003_1, x299004_1, x299005_1, rfl, HA, HK1, BK297, BK298, HB⟩ := hrel
  cases gk with
  | zero => exact absurd HA.out (by simp [weld_Sum.l0])
  | succ k1 =>
   have H := HA.out; clear HA
   simp only [weld_Sum.l0] at H
   by_cases c4 : x11_1 < (l0.length : Int)
   ·rw [if_pos c4] at H
    have c4b0 : decide (x11_1 < (l0.length : Int)) = true := decide_eq_true c4
    clear c4
    by_cases c5 : 0 ≤ x11_1
    ·rw [if_pos c5] at H
     have c5b0 : decide (0 ≤ x11_1) = true := decide_eq_true c5
     clear c5
     by_cases c6 : x11_1 < (l0.length : Int)
     ·rw [if_pos c6] at H
      have c6b0 : decide (x11_1 < (l0.length : Int)) = true := decide_eq_true c6
      clear c6
      replace H := Option.bind_eq_some_iff.mp H
      obtain ⟨⟨t301, t302, t303, t304, t305, t306, t307⟩, A70, H⟩ := H
      have A7 := Aside0.mk A70; clear A70
      by_cases c8 : t307 = 0
      ·rw [if_pos c8] at H
       have c8b0 : (t307 == 0) = true := beq_iff_eq.mpr c8
       have c8b1 : (t307 != 0) = false := bne_eq_false_iff_eq.mpr c8
       clear c8; have H' := Aside0.mk H; clear H
       have p299 : 0 ≤ (x11_1 : Int) := of_decide_eq_true (by first | (with_reducible assumption) | assumption)
       have q299 : x11_1 < (l0.length : Int) := of_decide_eq_true (by first | (with_reducible assumption) | assumption)
       obtain ⟨ad299, e299, hx299_0, hx299_1, hx299_2, hx299_3, hx299_4, hx299_5⟩ := at_T36 HR0.out x11_1 p299 q299
       cases e299
       replace hx299_0 := (HB.out.cell (World.block_lt_of_cell? w _ hx299_0)).trans hx299_0
       replace hx299_1 := (HB.out.cell (World.block_lt_of_cell? w _ hx299_1)).trans hx299_1
       replace hx299_2 := (HB.out.cell (World.block_lt_of_cell? w _ hx299_2)).trans hx299_2
       replace hx299_3 := (HB.out.cell (World.block_lt_of_cell? w _ hx299_3)).trans hx299_3
       replace hx299_4 := (HB.out.cell (World.block_lt_of_cell? w _ hx299_4)).trans hx299_4
       replace hx299_5 := (HB.out.cell (World.block_lt_of_cell? w _ hx299_5)).trans hx299_5
       replace p299 := eq_true p299
       replace q299 := eq_true q299
       go_wp2_with (first | ((with_reducible refine gate_dst (N := 6) rfl ?_); refine box_event ?hg (N := 6) ?hd (cs := #[.int .i64 0, .int .i64 0, .int .i64 0, .int .i64 0, .string (⟨#[]⟩ : ByteArray), .string (⟨#[]⟩ : ByteArray)]) (t := 36) ?hr ?_; (case hd => rfl); (case hg => rfl); (case hr => first | (go_simp; done) | (go_simp; rfl)); intro gb300 hg w9 hbox hb; have n0_ := Aside0.mk (blk_below (pl BK297.out) hb); have n1_ := Aside0.mk (blk_below (pl BK298.out) hb); have n2_ := Aside0.mk (below_step (by repeat (first | (with_reducible first | exact HB.out | apply below_alloc | apply pw_below_drewN | apply below_drew1 | refine below_set ?_ GE297.out | refine below_set ?_ GE298.out) | exact HB.out)) hb); have n3_ := Aside0.mk (hbox); have n4_ := Aside0.mk ((by rw [hg]; exact (below_size (by repeat (first | (with_reducible first | exact HB.out | apply below_alloc | apply pw_below_drewN | apply below_drew1 | refine below_set ?_ GE297.out | refine below_set ?_ GE298.out) | exact HB.out))) : w.heap.size ≤ gb300)); have n5_ := Aside0.mk ((by rw [hg]; exact (below_size (by repeat (first | (with_reducible first | exact HB.out | apply below_alloc | apply pw_below_drewN | apply below_drew1 | refine below_set ?_ GE297.out | refine below_set ?_ GE298.out) | exact HB.out))) : w.heap.size ≤ gb300)); have n6_ := Aside0.mk ((by rw [hg]; exact Nat.ne_of_lt (blk_lt (pl BK297.out)) : gb297 ≠ gb300)); have n7_ := Aside0.mk ((by rw [hg]; exact Nat.ne_of_gt (blk_lt (pl BK297.out)) : gb300 ≠ gb297)); have n8_ := Aside0.mk ((by rw [hg]; exact Nat.ne_of_lt (blk_lt (pl BK298.out)) : gb298 ≠ gb300)); have n9_ := Aside0.mk ((by rw [hg]; exact Nat.ne_of_gt (blk_lt (pl BK298.out)) : gb300 ≠ gb298)); clear BK297; clear BK298; clear HB; have BK297 := n0_; have BK298 := n1_; have HB := n2_; have BK300 := n3_; have GW300 := n4_; have GE300 := n5_; have NB297_300 := n6_; have NB300_297 := n7_; have NB298_300 := n8_; have NB300_298 := n9_; clear n0_ n1_ n2_ n3_ n4_ n5_ n6_ n7_ n8_ n9_; clear hb hbox hg; have hnb10 := NB300_297.out; have hnc10 := NB297_300.out; have hnb11 := NB300_298.out; have hnc11 := NB298_300.out; obtain ⟨hcz12_0, hcz12_1, hcz12_2, hcz12_3, hcz12_4, hcz12_5⟩ := cl6 BK300.out; obtain ⟨hfz12_0, hfz12_1, hfz12_2, hfz12_3, hfz12_4, hfz12_5⟩ := fl6 BK300.out; have hnb13 := NB298_297.out; have hnc13 := NB297_298.out; obtain ⟨hcz14_0, hcz14_1, hcz14_2, hcz14_3, hcz14_4, hcz14_5⟩ := cl6 BK298.out; obtain ⟨hfz14_0, hfz14_1, hfz14_2, hfz14_3, hfz14_4, hfz14_5⟩ := fl6 BK298.out) | ((with_reducible refine gate_callee (f := 26) rfl ?_); refine goesL_ (some 18) rfl rfl Tryd.func26 (by kernel_rfl) rfl #[.agg #[.int .i64 x299000_1, .int .i64 x299001_1, .int .i64 x299002_1, .int .i64 x299003_1, .string x299004_1, .string x299005_1], .agg #[.int .i64 ((rd_T36 l0 x11_1).f0.f0), .int .i64 ((rd_T36 l0 x11_1).f0.f1), .int .i64 ((rd_T36 l0 x11_1).f0.f2), .int .i64 ((rd_T36 l0 x11_1).f0.f3), .string ((rd_T36 l0 x11_1).f1), .string ((rd_T36 l0 x11_1).f2)]] rfl (by (try simp only [List.map_toArray, List.map_cons, List.map_nil]); first | done | rfl | (simp only [List.length_drop, List.length_take]; rfl)) ?_; (with_reducible refine (weld_Join.calls k1 x299000_1 x299001_1 x299002_1 x299003_1 x299004_1 x299005_1 ((rd_T36 l0 x11_1).f0.f0) ((rd_T36 l0 x11_1).f0.f1) ((rd_T36 l0 x11_1).f0.f2) ((rd_T36 l0 x11_1).f0.f3) ((rd_T36 l0 x11_1).f1) ((rd_T36 l0 x11_1).f2) t301 t302 t303 t304 t305 t306 t307 _ ?side1 A7.out).mono ?_); (case side1 => first | (with_reducible exact HG.out) | exact Glob.Globs_below HG.out (by repeat (first | (with_reducible first | exact HB.out | apply below_alloc | apply pw_below_drewN | apply below_drew1 | refine below_set ?_ GE297.out | refine below_set ?_ GE298.out | refine below_set ?_ GE300.out) | exact HB.out))); rintro e w15 ⟨rfl, hb⟩; refine ⟨_, rfl, ?_⟩; have n0_ := Aside0.mk (blk_below (g := gb297) (o := .cells #[.int .i64 x298000_1, .int .i64 x298001_1, .int .i64 x298002_1, .int .i64 x298003_1, .string x298004_1, .string x298005_1] 36 (0, 0)) (by refine pl ?_; refine blk_far ?_ NB297_300.out _; refine pl ?_; refine blk_far ?_ NB297_300.out _; refine pl ?_; refine blk_far ?_ NB297_300.out _; refine pl ?_; refine blk_far ?_ NB297_300.out _; refine pl ?_; refine blk_far ?_ NB297_300.out _; refine pl ?_; refine blk_far ?_ NB297_300.out _; refine pl ?_; exact BK297.out) hb); have n1_ := Aside0.mk (blk_below (g := gb298) (o := .cells #[.int .i64 x299000_1, .int .i64 x299001_1, .int .i64 x299002_1, .int .i64 x299003_1, .string x299004_1, .string x299005_1] 36 (0, 0)) (by refine pl ?_; refine blk_far ?_ NB298_300.out _; refine pl ?_; refine blk_far ?_ NB298_300.out _; refine pl ?_; refine blk_far ?_ NB298_300.out _; refine pl ?_; refine blk_far ?_ NB298_300.out _; refine pl ?_; refine blk_far ?_ NB298_300.out _; refine pl ?_; refine blk_far ?_ NB298_300.out _; refine pl ?_; exact BK298.out) hb); have n2_ := Aside0.mk (blk_below (g := gb300) (o := .cells #[.int .i64 ((rd_T36 l0 x11_1).f0.f0), .int .i64 ((rd_T36 l0 x11_1).f0.f1), .int .i64 ((rd_T36 l0 x11_1).f0.f2), .int .i64 ((rd_T36 l0 x11_1).f0.f3), .string ((rd_T36 l0 x11_1).f1), .string ((rd_T36 l0 x11_1).f2)] 36 (0, 0)) (by refine pl ?_; refine blk_put (cs := #[.int .i64 ((rd_T36 l0 x11_1).f0.f0), .int .i64 ((rd_T36 l0 x11_1).f0.f1), .int .i64 ((rd_T36 l0 x11_1).f0.f2), .int .i64 ((rd_T36 l0 x11_1).f0.f3), .string ((rd_T36 l0 x11_1).f1), .string (⟨#[]⟩ : ByteArray)]) ?_ 5 _ rfl; refine pl ?_; refine blk_put (cs := #[.int .i64 ((rd_T36 l0 x11_1).f0.f0), .int .i64 ((rd_T36 l0 x11_1).f0.f1), .int .i64 ((rd_T36 l0 x11_1).f0.f2), .int .i64 ((rd_T36 l0 x11_1).f0.f3), .string (⟨#[]⟩ : ByteArray), .string (⟨#[]⟩ : ByteArray)]) ?_ 4 _ rfl; refine pl ?_; refine blk_put (cs := #[.int .i64 ((rd_T36 l0 x11_1).f0.f0), .int .i64 ((rd_T36 l0 x11_1).f0.f1), .int .i64 ((rd_T36 l0 x11_1).f0.f2), .int .i64 0, .string (⟨#[]⟩ : ByteArray), .string (⟨#[]⟩ : ByteArray)]) ?_ 3 _ rfl; refine pl ?_; refine blk_put (cs := #[.int .i64 ((rd_T36 l0 x11_1).f0.f0), .int .i64 ((rd_T36 l0 x11_1).f0.f1), .int .i64 0, .int .i64 0, .string (⟨#[]⟩ : ByteArray), .string (⟨#[]⟩ : ByteArray)]) ?_ 2 _ rfl; refine pl ?_; refine blk_put (cs := #[.int .i64 ((rd_T36 l0 x11_1).f0.f0), .int .i64 0, .int .i64 0, .int .i64 0, .string (⟨#[]⟩ : ByteArray), .string (⟨#[]⟩ : ByteArray)]) ?_ 1 _ rfl; refine pl ?_; refine blk_put (cs := #[.int .i64 0, .int .i64 0, .int .i64 0, .int .i64 0, .string (⟨#[]⟩ : ByteArray), .string (⟨#[]⟩ : ByteArray)]) ?_ 0 _ rfl; refine pl ?_; exact BK300.out) hb); have n3_ := Aside0.mk (below_step (by repeat (first | (with_reducible first | exact HB.out | apply below_alloc | apply pw_below_drewN | apply below_drew1 | refine below_set ?_ GE297.out | refine below_set ?_ GE298.out | refine below_set ?_ GE300.out) | exact HB.out)) hb); clear BK297; clear BK298; clear BK300; clear HB; have BK297 := n0_; have BK298 := n1_; have BK300 := n2_; have HB := n3_; clear n0_ n1_ n2_ n3_; (try clear hb); (try clear hb2); (try clear hk); (try clear hi)) | ((with_reducible refine gate_dst (N := 7) rfl ?_); refine box_event ?hg (N := 7) ?hd (cs := #[.int .i64 0, .int .i64 0, .int .i64 0, .int .i64 0, .string (⟨#[]⟩ : ByteArray), .string (⟨#[]⟩ : ByteArray)]) (t := 36) ?hr ?_; (case hd => rfl); (case hg => rfl); (case hr => first | (go_simp; done) | (go_simp; rfl)); intro gb308 hg w16 hbox hb; have n0_ := Aside0.mk (blk_below (pl BK297.out) hb); have n1_ := Aside0.mk (blk_below (pl BK298.out) hb); have n2_ := Aside0.mk (blk_below (pl BK300.out) hb); have n3_ := Aside0.mk (below_step (by repeat (first | (with_reducible first | exact HB.out | apply below_alloc | apply pw_below_drewN | apply below_drew1 | refine below_set ?_ GE297.out | refine below_set ?_ GE298.out | refine below_set ?_ GE300.out) | exact HB.out)) hb); have n4_ := Aside0.mk (hbox); have n5_ := Aside0.mk ((by rw [hg]; exact (below_size (by repeat (first | (with_reducible first | exact HB.out | apply below_alloc | apply pw_below_drewN | apply below_drew1 | refine below_set ?_ GE297.out | refine below_set ?_ GE298.out | refine below_set ?_ GE300.out) | exact HB.out))) : w.heap.size ≤ gb308)); have n6_ := Aside0.mk ((by rw [hg]; exact (below_size (by repeat (first | (with_reducible first | exact HB.out | apply below_alloc | apply pw_below_drewN | apply below_drew1 | refine below_set ?_ GE297.out | refine below_set ?_ GE298.out | refine below_set ?_ GE300.out) | exact HB.out))) : w.heap.size ≤ gb308)); have n7_ := Aside0.mk ((by rw [hg]; exact Nat.ne_of_lt (blk_lt (pl BK297.out)) : gb297 ≠ gb308)); have n8_ := Aside0.mk ((by rw [hg]; exact Nat.ne_of_gt (blk_lt (pl BK297.out)) : gb308 ≠ gb297)); have n9_ := Aside0.mk ((by rw [hg]; exact Nat.ne_of_lt (blk_lt (pl BK298.out)) : gb298 ≠ gb308)); have n10_ := Aside0.mk ((by rw [hg]; exact Nat.ne_of_gt (blk_lt (pl BK298.out)) : gb308 ≠ gb298)); have n11_ := Aside0.mk ((by rw [hg]; exact Nat.ne_of_lt (blk_lt (pl BK300.out)) : gb300 ≠ gb308)); have n12_ := Aside0.mk ((by rw [hg]; exact Nat.ne_of_gt (blk_lt (pl BK300.out)) : gb308 ≠ gb300)); clear BK297; clear BK298; clear BK300; clear HB; have BK297 := n0_; have BK298 := n1_; have BK300 := n2_; have HB := n3_; have BK308 := n4_; have GW308 := n5_; have GE308 := n6_; have NB297_308 := n7_; have NB308_297 := n8_; have NB298_308 := n9_; have NB308_298 := n10_; have NB300_308 := n11_; have NB308_300 := n12_; clear n0_ n1_ n2_ n3_ n4_ n5_ n6_ n7_ n8_ n9_ n10_ n11_ n12_; clear hb hbox hg; have hnb17 := NB308_297.out; have hnc17 := NB297_308.out; have hnb18 := NB308_298.out; have hnc18 := NB298_308.out; have hnb19 := NB308_300.out; have hnc19 := NB300_308.out; obtain ⟨hcz20_0, hcz20_1, hcz20_2, hcz20_3, hcz20_4, hcz20_5⟩ := cl6 BK308.out; obtain ⟨hfz20_0, hfz20_1, hfz20_2, hfz20_3, hfz20_4, hfz20_5⟩ := fl6 BK308.out; obtain ⟨hcz21_0, hcz21_1, hcz21_2, hcz21_3, hcz21_4, hcz21_5⟩ := cl6 BK298.out; obtain ⟨hfz21_0, hfz21_1, hfz21_2, hfz21_3, hfz21_4, hfz21_5⟩ := fl6 BK298.out))
       go_roundg k1
       case measure => have := HK1.out; omega
       case rel => exact ⟨(wrap64 (x11_1 + 1)), (x298000_1), (x298001_1), (x298002_1), (x298003_1), (x298004_1), (x298005_1), (t301), (t302), (t303), (t304), (t305), (t306), (by first | rfl | (simp; done) | (simp [*]; done)), H', ⟨by have := HK1.out; omega⟩, ⟨by refine pl ?_; refine blk_far ?_ NB297_298.out _; refine pl ?_; refine blk_far ?_ NB297_298.out _; refine pl ?_; refine blk_far ?_ NB297_298.out _; refine pl ?_; refine blk_far ?_ NB297_298.out _; refine pl ?_; refine blk_far ?_ NB297_298.out _; refine pl ?_; refine blk_far ?_ NB297_298.out _; refine pl ?_; refine blk_far ?_ NB297_308.out _; refine pl ?_; refine blk_far ?_ NB297_308.out _; refine pl ?_; refine blk_far ?_ NB297_308.out _; refine pl ?_; refine blk_far ?_ NB297_308.out _; refine pl ?_; refine blk_far ?_ NB297_308.out _; refine pl ?_; refine blk_far ?_ NB297_308.out _; refine pl ?_; exact BK297.out⟩, ⟨by refine pl ?_; refine blk_put (cs := #[.int .i64 t301, .int .i64 t302, .int .i64 t303, .int .i64 t304, .string t305, .string x299005_1]) ?_ 5 _ rfl; refine pl ?_; refine blk_put (cs := #[.int .i64 t301, .int .i64 t302, .int .i64 t303, .int .i64 t304, .string x299004_1, .string x299005_1]) ?_ 4 _ rfl; refine pl ?_; refine blk_put (cs := #[.int .i64 t301, .int .i64 t302, .int .i64 t303, .int .i64 x299003_1, .string x299004_1, .string x299005_1]) ?_ 3 _ rfl; refine pl ?_; refine blk_put (cs := #[.int .i64 t301, .int .i64 t302, .int .i64 x299002_1, .int .i64 x299003_1, .string x299004_1, .string x299005_1]) ?_ 2 _ rfl; refine pl ?_; refine blk_put (cs := #[.int .i64 t301, .int .i64 x299001_1, .int .i64 x299002_1, .int .i64 x299003_1, .string x299004_1, .string x299005_1]) ?_ 1 _ rfl; refine pl ?_; refine blk_put (cs := #[.int .i64 x299000_1, .int .i64 x299001_1, .int .i64 x299002_1, .int .i64 x299003_1, .string x299004_1, .string x299005_1]) ?_ 0 _ rfl; refine pl ?_; refine blk_far ?_ NB298_308.out _; refine pl ?_; refine blk_far ?_ NB298_308.out _; refine pl ?_; refine blk_far ?_ NB298_308.out _; refine pl ?_; refine blk_far ?_ NB298_308.out _; refine pl ?_; refine blk_far ?_ NB298_308.out _; refine pl ?_; refine blk_far ?_ NB298_308.out _; refine pl ?_; exact BK298.out⟩, ⟨by repeat (first | (with_reducible first | exact HB.out | apply below_alloc | apply pw_below_drewN | apply below_drew1 | refine below_set ?_ GE297.out | refine below_set ?_ GE298.out | refine below_set ?_ GE300.out | refine below_set ?_ GE308.out) | exact HB.out)⟩⟩
      ·rw [if_neg c8] at H
       have c8b0 : (t307 == 0) = false := beq_eq_false_iff_ne.mpr c8
       have c8b1 : (t307 != 0) = true := bne_iff_ne.mpr c8
       simp only [Option.some.injEq, Prod.mk.injEq] at H
       obtain ⟨rfl, rfl, rfl, rfl, rfl, rfl, rfl⟩ := H
       have p299 : 0 ≤ (x11_1 : Int) := of_decide_eq_true (by first | (with_reducible assumption) | assumption)
       have q299 : x11_1 < (l0.length : Int) := of_decide_eq_true (by first | (with_reducible assumption) | assumption)
       obtain ⟨ad299, e299, hx299_0, hx299_1, hx299_2, hx299_3, hx299_4, hx299_5⟩ := at_T36 HR0.out x11_1 p299 q299
       cases e299
       replace hx299_0 := (HB.out.cell (World.block_lt_of_cell? w _ hx299_0)).trans hx299_0
       replace hx299_1 := (HB.out.cell (World.block_lt_of_cell? w _ hx299_1)).trans hx299_1
       replace hx299_2 := (HB.out.cell (World.block_lt_of_cell? w _ hx299_2)).trans hx299_2
       replace hx299_3 := (HB.out.cell (World.block_lt_of_cell? w _ hx299_3)).trans hx299_3
       replace hx299_4 := (HB.out.cell (World.block_lt_of_cell? w _ hx299_4)).trans hx299_4
       replace hx299_5 := (HB.out.cell (World.block_lt_of_cell? w _ hx299_5)).trans hx299_5
       replace p299 := eq_true p299
       replace q299 := eq_true q299
       go_wp2_with (first | ((with_reducible refine gate_dst (N := 6) rfl ?_); refine box_event ?hg (N := 6) ?hd (cs := #[.int .i64 0, .int .i64 0, .int .i64 0, .int .i64 0, .string (⟨#[]⟩ : ByteArray), .string (⟨#[]⟩ : ByteArray)]) (t := 36) ?hr ?_; (case hd => rfl); (case hg => rfl); (case hr => first | (go_simp; done) | (go_simp; rfl)); intro gb300 hg w22 hbox hb; have n0_ := Aside0.mk (blk_below (pl BK297.out) hb); have n1_ := Aside0.mk (blk_below (pl BK298.out) hb); have n2_ := Aside0.mk (below_step (by repeat (first | (with_reducible first | exact HB.out | apply below_alloc | apply pw_below_drewN | apply below_drew1 | refine below_set ?_ GE297.out | refine below_set ?_ GE298.out) | exact HB.out)) hb); have n3_ := Aside0.mk (hbox); have n4_ := Aside0.mk ((by rw [hg]; exact (below_size (by repeat (first | (with_reducible first | exact HB.out | apply below_alloc | apply pw_below_drewN | apply below_drew1 | refine below_set ?_ GE297.out | refine below_set ?_ GE298.out) | exact HB.out))) : w.heap.size ≤ gb300)); have n5_ := Aside0.mk ((by rw [hg]; exact (below_size (by repeat (first | (with_reducible first | exact HB.out | apply below_alloc | apply pw_below_drewN | apply below_drew1 | refine below_set ?_ GE297.out | refine below_set ?_ GE298.out) | exact HB.out))) : w.heap.size ≤ gb300)); have n6_ := Aside0.mk ((by rw [hg]; exact Nat.ne_of_lt (blk_lt (pl BK297.out)) : gb297 ≠ gb300)); have n7_ := Aside0.mk ((by rw [hg]; exact Nat.ne_of_gt (blk_lt (pl BK297.out)) : gb300 ≠ gb297)); have n8_ := Aside0.mk ((by rw [hg]; exact Nat.ne_of_lt (blk_lt (pl BK298.out)) : gb298 ≠ gb300)); have n9_ := Aside0.mk ((by rw [hg]; exact Nat.ne_of_gt (blk_lt (pl BK298.out)) : gb300 ≠ gb298)); clear BK297; clear BK298; clear HB; have BK297 := n0_; have BK298 := n1_; have HB := n2_; have BK300 := n3_; have GW300 := n4_; have GE300 := n5_; have NB297_300 := n6_; have NB300_297 := n7_; have NB298_300 := n8_; have NB300_298 := n9_; clear n0_ n1_ n2_ n3_ n4_ n5_ n6_ n7_ n8_ n9_; clear hb hbox hg; have hnb23 := NB300_297.out; have hnc23 := NB297_300.out; have hnb24 := NB300_298.out; have hnc24 := NB298_300.out; obtain ⟨hcz25_0, hcz25_1, hcz25_2, hcz25_3, hcz25_4, hcz25_5⟩ := cl6 BK300.out; obtain ⟨hfz25_0, hfz25_1, hfz25_2, hfz25_3, hfz25_4, hfz25_5⟩ := fl6 BK300.out; have hnb26 := NB298_297.out; have hnc26 := NB297_298.out; obtain ⟨hcz27_0, hcz27_1, hcz27_2, hcz27_3, hcz27_4, hcz27_5⟩ := cl6 BK298.out; obtain ⟨hfz27_0, hfz27_1, hfz27_2, hfz27_3, hfz27_4, hfz27_5⟩ := fl6 BK298.out) | ((with_reducible refine gate_callee (f := 26) rfl ?_); refine goesL_ (some 18) rfl rfl Tryd.func26 (by kernel_rfl) rfl #[.agg #[.int .i64 x299000_1, .int .i64 x299001_1, .int .i64 x299002_1, .int .i64 x299003_1, .string x299004_1, .string x299005_1], .agg #[.int .i64 ((rd_T36 l0 x11_1).f0.f0), .int .i64 ((rd_T36 l0 x11_1).f0.f1), .int .i64 ((rd_T36 l0 x11_1).f0.f2), .int .i64 ((rd_T36 l0 x11_1).f0.f3), .string ((rd_T36 l0 x11_1).f1), .string ((rd_T36 l0 x11_1).f2)]] rfl (by (try simp only [List.map_toArray, List.map_cons, List.map_nil]); first | done | rfl | (simp only [List.length_drop, List.length_take]; rfl)) ?_; (with_reducible refine (weld_Join.calls k1 x299000_1 x299001_1 x299002_1 x299003_1 x299004_1 x299005_1 ((rd_T36 l0 x11_1).f0.f0) ((rd_T36 l0 x11_1).f0.f1) ((rd_T36 l0 x11_1).f0.f2) ((rd_T36 l0 x11_1).f0.f3) ((rd_T36 l0 x11_1).f1) ((rd_T36 l0 x11_1).f2) t301 t302 t303 t304 t305 t306 t307 _ ?side1 A7.out).mono ?_); (case side1 => first | (with_reducible exact HG.out) | exact Glob.Globs_below HG.out (by repeat (first | (with_reducible first | exact HB.out | apply below_alloc | apply pw_below_drewN | apply below_drew1 | refine below_set ?_ GE297.out | refine below_set ?_ GE298.out | refine below_set ?_ GE300.out) | exact HB.out))); rintro e w28 ⟨rfl, hb⟩; refine ⟨_, rfl, ?_⟩; have n0_ := Aside0.mk (blk_below (g := gb297) (o := .cells #[.int .i64 x298000_1, .int .i64 x298001_1, .int .i64 x298002_1, .int .i64 x298003_1, .string x298004_1, .string x298005_1] 36 (0, 0)) (by refine pl ?_; refine blk_far ?_ NB297_300.out _; refine pl ?_; refine blk_far ?_ NB297_300.out _; refine pl ?_; refine blk_far ?_ NB297_300.out _; refine pl ?_; refine blk_far ?_ NB297_300.out _; refine pl ?_; refine blk_far ?_ NB297_300.out _; refine pl ?_; refine blk_far ?_ NB297_300.out _; refine pl ?_; exact BK297.out) hb); have n1_ := Aside0.mk (blk_below (g := gb298) (o := .cells #[.int .i64 x299000_1, .int .i64 x299001_1, .int .i64 x299002_1, .int .i64 x299003_1, .string x299004_1, .string x299005_1] 36 (0, 0)) (by refine pl ?_; refine blk_far ?_ NB298_300.out _; refine pl ?_; refine blk_far ?_ NB298_300.out _; refine pl ?_; refine blk_far ?_ NB298_300.out _; refine pl ?_; refine blk_far ?_ NB298_300.out _; refine pl ?_; refine blk_far ?_ NB298_300.out _; refine pl ?_; refine blk_far ?_ NB298_300.out _; refine pl ?_; exact BK298.out) hb); have n2_ := Aside0.mk (blk_below (g := gb300) (o := .cells #[.int .i64 ((rd_T36 l0 x11_1).f0.f0), .int .i64 ((rd_T36 l0 x11_1).f0.f1), .int .i64 ((rd_T36 l0 x11_1).f0.f2), .int .i64 ((rd_T36 l0 x11_1).f0.f3), .string ((rd_T36 l0 x11_1).f1), .string ((rd_T36 l0 x11_1).f2)] 36 (0, 0)) (by refine pl ?_; refine blk_put (cs := #[.int .i64 ((rd_T36 l0 x11_1).f0.f0), .int .i64 ((rd_T36 l0 x11_1).f0.f1), .int .i64 ((rd_T36 l0 x11_1).f0.f2), .int .i64 ((rd_T36 l0 x11_1).f0.f3), .string ((rd_T36 l0 x11_1).f1), .string (⟨#[]⟩ : ByteArray)]) ?_ 5 _ rfl; refine pl ?_; refine blk_put (cs := #[.int .i64 ((rd_T36 l0 x11_1).f0.f0), .int .i64 ((rd_T36 l0 x11_1).f0.f1), .int .i64 ((rd_T36 l0 x11_1).f0.f2), .int .i64 ((rd_T36 l0 x11_1).f0.f3), .string (⟨#[]⟩ : ByteArray), .string (⟨#[]⟩ : ByteArray)]) ?_ 4 _ rfl; refine pl ?_; refine blk_put (cs := #[.int .i64 ((rd_T36 l0 x11_1).f0.f0), .int .i64 ((rd_T36 l0 x11_1).f0.f1), .int .i64 ((rd_T36 l0 x11_1).f0.f2), .int .i64 0, .string (⟨#[]⟩ : ByteArray), .string (⟨#[]⟩ : ByteArray)]) ?_ 3 _ rfl; refine pl ?_; refine blk_put (cs := #[.int .i64 ((rd_T36 l0 x11_1).f0.f0), .int .i64 ((rd_T36 l0 x11_1).f0.f1), .int .i64 0, .int .i64 0, .string (⟨#[]⟩ : ByteArray), .string (⟨#[]⟩ : ByteArray)]) ?_ 2 _ rfl; refine pl ?_; refine blk_put (cs := #[.int .i64 ((rd_T36 l0 x11_1).f0.f0), .int .i64 0, .int .i64 0, .int .i64 0, .string (⟨#[]⟩ : ByteArray), .string (⟨#[]⟩ : ByteArray)]) ?_ 1 _ rfl; refine pl ?_; refine blk_put (cs := #[.int .i64 0, .int .i64 0, .int .i64 0, .int .i64 0, .string (⟨#[]⟩ : ByteArray), .string (⟨#[]⟩ : ByteArray)]) ?_ 0 _ rfl; refine pl ?_; exact BK300.out) hb); have n3_ := Aside0.mk (below_step (by repeat (first | (with_reducible first | exact HB.out | apply below_alloc | apply pw_below_drewN | apply below_drew1 | refine below_set ?_ GE297.out | refine below_set ?_ GE298.out | refine below_set ?_ GE300.out) | exact HB.out)) hb); clear BK297; clear BK298; clear BK300; clear HB; have BK297 := n0_; have BK298 := n1_; have BK300 := n2_; have HB := n3_; clear n0_ n1_ n2_ n3_; (try clear hb); (try clear hb2); (try clear hk); (try clear hi)) | ((with_reducible refine gate_dst (N := 7) rfl ?_); refine box_event ?hg (N := 7) ?hd (cs := #[.int .i64 0, .int .i64 0, .int .i64 0, .int .i64 0, .string (⟨#[]⟩ : ByteArray), .string (⟨#[]⟩ : ByteArray)]) (t := 36) ?hr ?_; (case hd => rfl); (case hg => rfl); (case hr => first | (go_simp; done) | (go_simp; rfl)); intro gb308 hg w29 hbox hb; have n0_ := Aside0.mk (blk_below (pl BK297.out) hb); have n1_ := Aside0.mk (blk_below (pl BK298.out) hb); have n2_ := Aside0.mk (blk_below (pl BK300.out) hb); have n3_ := Aside0.mk (below_step (by repeat (first | (with_reducible first | exact HB.out | apply below_alloc | apply pw_below_drewN | apply below_drew1 | refine below_set ?_ GE297.out | refine below_set ?_ GE298.out | refine below_set ?_ GE300.out) | exact HB.out)) hb); have n4_ := Aside0.mk (hbox); have n5_ := Aside0.mk ((by rw [hg]; exact (below_size (by repeat (first | (with_reducible first | exact HB.out | apply below_alloc | apply pw_below_drewN | apply below_drew1 | refine below_set ?_ GE297.out | refine below_set ?_ GE298.out | refine below_set ?_ GE300.out) | exact HB.out))) : w.heap.size ≤ gb308)); have n6_ := Aside0.mk ((by rw [hg]; exact (below_size (by repeat (first | (with_reducible first | exact HB.out | apply below_alloc | apply pw_below_drewN | apply below_drew1 | refine below_set ?_ GE297.out | refine below_set ?_ GE298.out | refine below_set ?_ GE300.out) | exact HB.out))) : w.heap.size ≤ gb308)); have n7_ := Aside0.mk ((by rw [hg]; exact Nat.ne_of_lt (blk_lt (pl BK297.out)) : gb297 ≠ gb308)); have n8_ := Aside0.mk ((by rw [hg]; exact Nat.ne_of_gt (blk_lt (pl BK297.out)) : gb308 ≠ gb297)); have n9_ := Aside0.mk ((by rw [hg]; exact Nat.ne_of_lt (blk_lt (pl BK298.out)) : gb298 ≠ gb308)); have n10_ := Aside0.mk ((by rw [hg]; exact Nat.ne_of_gt (blk_lt (pl BK298.out)) : gb308 ≠ gb298)); have n11_ := Aside0.mk ((by rw [hg]; exact Nat.ne_of_lt (blk_lt (pl BK300.out)) : gb300 ≠ gb308)); have n12_ := Aside0.mk ((by rw [hg]; exact Nat.ne_of_gt (blk_lt (pl BK300.out)) : gb308 ≠ gb300)); clear BK297; clear BK298; clear BK300; clear HB; have BK297 := n0_; have BK298 := n1_; have BK300 := n2_; have HB := n3_; have BK308 := n4_; have GW308 := n5_; have GE308 := n6_; have NB297_308 := n7_; have NB308_297 := n8_; have NB298_308 := n9_; have NB308_298 := n10_; have NB300_308 := n11_; have NB308_300 := n12_; clear n0_ n1_ n2_ n3_ n4_ n5_ n6_ n7_ n8_ n9_ n10_ n11_ n12_; clear hb hbox hg; have hnb30 := NB308_297.out; have hnc30 := NB297_308.out; have hnb31 := NB308_298.out; have hnc31 := NB298_308.out; have hnb32 := NB308_300.out; have hnc32 := NB300_308.out; obtain ⟨hcz33_0, hcz33_1, hcz33_2, hcz33_3, hcz33_4, hcz33_5⟩ := cl6 BK308.out; obtain ⟨hfz33_0, hfz33_1, hfz33_2, hfz33_3, hfz33_4, hfz33_5⟩ := fl6 BK308.out; obtain ⟨hcz34_0, hcz34_1, hcz34_2, hcz34_3, hcz34_4, hcz34_5⟩ := cl6 BK297.out; obtain ⟨hfz34_0, hfz34_1, hfz34_2, hfz34_3, hfz34_4, hfz34_5⟩ := fl6 BK297.out))
       refine bodyPost_ret (results_ct rfl _ _ gb297 36 #[.int .i64 0, .int .i64 0, .int .i64 0, .int .i64 0, .string (⟨#[]⟩ : ByteArray), .string (⟨#[]⟩ : ByteArray)] (0, 0) _ rfl (by refine pl ?_; refine blk_put (cs := #[.int .i64 0, .int .i64 0, .int .i64 0, .int .i64 0, .string (⟨#[]⟩ : ByteArray), .string x298005_1]) ?_ 5 _ rfl; refine pl ?_; refine blk_put (cs := #[.int .i64 0, .int .i64 0, .int .i64 0, .int .i64 0, .string x298004_1, .string x298005_1]) ?_ 4 _ rfl; refine pl ?_; refine blk_put (cs := #[.int .i64 0, .int .i64 0, .int .i64 0, .int .i64 x298003_1, .string x298004_1, .string x298005_1]) ?_ 3 _ rfl; refine pl ?_; refine blk_put (cs := #[.int .i64 0, .int .i64 0, .int .i64 x298002_1, .int .i64 x298003_1, .string x298004_1, .string x298005_1]) ?_ 2 _ rfl; refine pl ?_; refine blk_put (cs := #[.int .i64 0, .int .i64 x298001_1, .int .i64 x298002_1, .int .i64 x298003_1, .string x298004_1, .string x298005_1]) ?_ 1 _ rfl; refine pl ?_; refine blk_put (cs := #[.int .i64 x298000_1, .int .i64 x298001_1, .int .i64 x298002_1, .int .i64 x298003_1, .string x298004_1, .string x298005_1]) ?_ 0 _ rfl; refine pl ?_; refine blk_far ?_ NB297_308.out _; refine pl ?_; refine blk_far ?_ NB297_308.out _; refine pl ?_; refine blk_far ?_ NB297_308.out _; refine pl ?_; refine blk_far ?_ NB297_308.out _; refine pl ?_; refine blk_far ?_ NB297_308.out _; refine pl ?_; refine blk_far ?_ NB297_308.out _; refine pl ?_; exact BK297.out) Tryd.underlying36 rfl (by kernel_rfl)) rfl ?_
       exact ⟨by first | rfl | (simp [errW_none, errW_some] <;> rfl) | (simp [*, errW_none, errW_some] <;> rfl), by repeat (first | (with_reducible first | exact HB.out | apply below_alloc | apply pw_below_drewN | apply below_drew1 | refine below_set ?_ GE297.out | refine below_set ?_ GE298.out | refine below_set ?_ GE300.out | refine below_set ?_ GE308.out) | exact HB.out)⟩
     ·rw [if_neg c6] at H
      exact absurd H (by simp)
    ·rw [if_neg c5] at H
     exact absurd H (by simp)
   ·rw [if_neg c4] at H
    have c4b0 : decide (x11_1 < (l0.length : Int)) = false := decide_eq_false c4
    clear c4
    simp only [Option.some.injEq, Prod.mk.injEq] at H
    obtain ⟨rfl, rfl, rfl, rfl, rfl, rfl, rfl⟩ := H
    have hnb35 := NB298_297.out; have hnc35 := NB297_298.out; obtain ⟨hcz36_0, hcz36_1, hcz36_2, hcz36_3, hcz36_4, hcz36_5⟩ := cl6 BK298.out; obtain ⟨hfz36_0, hfz36_1, hfz36_2, hfz36_3, hfz36_4, hfz36_5⟩ := fl6 BK298.out; obtain ⟨hcz37_0, hcz37_1, hcz37_2, hcz37_3, hcz37_4, hcz37_5⟩ := cl6 BK297.out; obtain ⟨hfz37_0, hfz37_1, hfz37_2, hfz37_3, hfz37_4, hfz37_5⟩ := fl6 BK297.out
    go_wp2
    refine bodyPost_ret (results_ct rfl _ _ gb297 36 #[.int .i64 x299000_1, .int .i64 x299001_1, .int .i64 x299002_1, .int .i64 x299003_1, .string x299004_1, .string x299005_1] (0, 0) _ rfl (by refine pl ?_; refine blk_put (cs := #[.int .i64 x299000_1, .int .i64 x299001_1, .int .i64 x299002_1, .int .i64 x299003_1, .string x299004_1, .string x298005_1]) ?_ 5 _ rfl; refine pl ?_; refine blk_put (cs := #[.int .i64 x299000_1, .int .i64 x299001_1, .int .i64 x299002_1, .int .i64 x299003_1, .string x298004_1, .string x298005_1]) ?_ 4 _ rfl; refine pl ?_; refine blk_put (cs := #[.int .i64 x299000_1, .int .i64 x299001_1, .int .i64 x299002_1, .int .i64 x298003_1, .string x298004_1, .string x298005_1]) ?_ 3 _ rfl; refine pl ?_; refine blk_put (cs := #[.int .i64 x299000_1, .int .i64 x299001_1, .int .i64 x298002_1, .int .i64 x298003_1, .string x298004_1, .string x298005_1]) ?_ 2 _ rfl; refine pl ?_; refine blk_put (cs := #[.int .i64 x299000_1, .int .i64 x298001_1, .int .i64 x298002_1, .int .i64 x298003_1, .string x298004_1, .string x298005_1]) ?_ 1 _ rfl; refine pl ?_; refine blk_put (cs := #[.int .i64 x298000_1, .int .i64 x298001_1, .int .i64 x298002_1, .int .i64 x298003_1, .string x298004_1, .string x298005_1]) ?_ 0 _ rfl; refine pl ?_; exact BK297.out) Tryd.underlying36 rfl (by kernel_rfl)) rfl ?_
    exact ⟨by first | rfl | (simp [errW_none, errW_some] <;> rfl) | (simp [*, errW_none, errW_some] <;> rfl), by repeat (first | (with_reducible first | exact HB.out | apply below_alloc | apply pw_below_drewN | apply below_drew1 | refine below_set ?_ GE297.out | refine below_set ?_ GE298.out) | exact HB.out)⟩

-- NOT PRINTED: function 8 (galleylaw08_LeafCuts)

-- NOT PRINTED: function 9 (galleylaw08_LeafParts)
end Go.Proofs.YteoonhidjldnfaaDoor.Pr

namespace Go.Proofs.YteoonhidjldnfaaDoor.PuJn
open Go.RowKit Go.Proofs.YteoonhidjldnfaaDoor.Pr Go.Proofs.YteoonhidjldnfaaDoor.Math Go.Proofs.YteoonhidjldnfaaDoor.Ev Go.Proofs.YteoonhidjldnfaaDoor.PuSz Go.Proofs.YteoonhidjldnfaaDoor.PuMs Go.Proofs.YteoonhidjldnfaaDoor.PuSm Go.Proofs.YteoonhidjldnfaaDoorW.PrintWords Go.Proofs.YteoonhidjldnfaaDoorW.PrintLast Go.Proofs.YteoonhidjldnfaaDoorW.PrintMore
set_option linter.unusedVariables false
set_option linter.unusedSimpArgs false
def R64 (x : Int) : Prop := -9223372036854775808 ≤ x ∧ x ≤ 9223372036854775807
def vM (a : Ms) : Bool := vldB a.1 a.2.1 a.2.2.1 a.2.2.2.1 (bytesOf a.2.2.2.2.1) (bytesOf a.2.2.2.2.2)
theorem vld_range {n r u e : Int} {H T : List Int} (h : vldB n r u e H T = true) : (0 ≤ n ∧ n ≤ 268435456) ∧ (0 ≤ r ∧ r ≤ n) ∧ (0 ≤ u ∧ u ≤ 2 * n) ∧ (0 ≤ e ∧ e ≤ n) ∧ (H.length : Int) = min 3 n ∧ (T.length : Int) = min 3 n := by
  by_cases hc : n < 0 ∨ n > 268435456 ∨ (H.length : Int) ≠ min 3 n ∨ (T.length : Int) ≠ min 3 n
  · unfold vldB at h; rw [if_pos hc] at h; cases h
  · have hn : 0 ≤ n ∧ n ≤ 268435456 := by omega
    have hh : (H.length : Int) = min 3 n := by omega
    have ht : (T.length : Int) = min 3 n := by omega
    rw [vldB_in n r u e H T hn hh ht] at h
    refine ⟨hn, ?_⟩
    by_cases h6 : n ≤ 6
    · rw [if_pos h6, Bool.and_eq_true, decide_eq_true_eq, decide_eq_true_eq] at h
      obtain ⟨h1, h2, h3, h4⟩ := h
      have hs := ends_six n.toNat (by omega) H T (by omega) (by omega) h1
      generalize H ++ T.drop (H.length + T.length - n.toNat) = B at *
      have q1 := rn_bounds' B
      have q2 := en_bounds' B 0
      omega
    · rw [if_neg h6, decide_eq_true_eq] at h
      omega
def jnM (a b : Ms) : Ms :=
  (a.1 + b.1, a.2.1 + b.2.1 - (seamR (bytesOf a.2.2.2.2.2) (bytesOf b.2.2.2.2.1)).1, a.2.2.1 + b.2.2.1 - (seamR (bytesOf a.2.2.2.2.2) (bytesOf b.2.2.2.2.1)).2, a.2.2.2.1 + b.2.2.2.1 - seamE (bytesOf a.2.2.2.2.2) (bytesOf b.2.2.2.2.1),
    if a.1 < 3 then strOfNums ((bytesOf a.2.2.2.2.1 ++ bytesOf b.2.2.2.2.1).take 3) else a.2.2.2.2.1,
    if b.1 < 3 then strOfNums ((bytesOf a.2.2.2.2.2 ++ bytesOf b.2.2.2.2.2).drop (a.2.2.2.2.2.size + b.2.2.2.2.2.size - 3)) else b.2.2.2.2.2)
def erM (a b : Ms) : Int := if vM a = true ∧ vM b = true then (if a.1 + b.1 > 268435456 then 5 else if vM (jnM a b) = true then 0 else 50) else 50
def joM (a b : Ms) : Ms := if erM a b = 0 then jnM a b else m0
def smM (a b : Ms) : Int × Int × Int := if erM a b = 0 then ((seamR (bytesOf a.2.2.2.2.2) (bytesOf b.2.2.2.2.1)).1, (seamR (bytesOf a.2.2.2.2.2) (bytesOf b.2.2.2.2.1)).2, seamE (bytesOf a.2.2.2.2.2) (bytesOf b.2.2.2.2.1)) else (0, 0, 0)
theorem er_bad {a b : Ms} (h : ¬ (vM a = true ∧ vM b = true)) : erM a b = 50 := by unfold erM; rw [if_neg h]
theorem er_long {a b : Ms} (h : vM a = true ∧ vM b = true) (h' : a.1 + b.1 > 268435456) : erM a b = 5 := by unfold erM; rw [if_pos h, if_pos h']
theorem er_fine {a b : Ms} (h : vM a = true ∧ vM b = true) (h' : ¬ a.1 + b.1 > 268435456) (h2 : vM (jnM a b) = true) : erM a b = 0 := by unfold erM; rw [if_pos h, if_neg h', if_pos h2]
theorem er_not {a b : Ms} (h : vM a = true ∧ vM b = true) (h' : ¬ a.1 + b.1 > 268435456) (h2 : vM (jnM a b) = false) : erM a b = 50 := by unfold erM; rw [if_pos h, if_neg h', if_neg (by rw [h2]; decide)]
section
variable (a0 a1 a2 a3 b0 b1 b2 b3 : Int) (aH aT bH bT : ByteArray)
theorem sum_eq (p0 p1 p2 p3 q0 q1 q2 q3 t : Int) (ht : t = 1 ∨ t = -1) (h0 : 0 ≤ p0 ∧ p0 ≤ 4294967296) (h1 : 0 ≤ p1 ∧ p1 ≤ 4294967296) (h2 : 0 ≤ p2 ∧ p2 ≤ 4294967296) (h3 : 0 ≤ p3 ∧ p3 ≤ 4294967296)
    (g0 : 0 ≤ q0 ∧ q0 ≤ 4294967296) (g1 : 0 ≤ q1 ∧ q1 ≤ 4294967296) (g2 : 0 ≤ q2 ∧ q2 ≤ 4294967296) (g3 : 0 ≤ q3 ∧ q3 ≤ 4294967296) : weld_sum.f p0 p1 p2 p3 q0 q1 q2 q3 t = some (p0 + t * q0, p1 + t * q1, p2 + t * q2, p3 + t * q3) := by
  unfold weld_sum.f
  rcases ht with rfl | rfl
  · simp only [Int.one_mul]
    rw [w64 (n := q0) (by omega) (by omega), w64 (n := q1) (by omega) (by omega), w64 (n := q2) (by omega) (by omega), w64 (n := q3) (by omega) (by omega), w64 (by omega) (by omega), w64 (by omega) (by omega), w64 (by omega) (by omega), w64 (by omega) (by omega)]
  · simp only [Int.neg_mul, Int.one_mul]
    rw [w64 (n := -q0) (by omega) (by omega), w64 (n := -q1) (by omega) (by omega), w64 (n := -q2) (by omega) (by omega), w64 (n := -q3) (by omega) (by omega), w64 (by omega) (by omega), w64 (by omega) (by omega), w64 (by omega) (by omega), w64 (by omega) (by omega)]
def jT (b0 : Int) (aT bT : ByteArray) : ByteArray := if b0 < 3 then strOfNums ((bytesOf aT ++ bytesOf bT).drop (aT.size + bT.size - 3)) else bT
def jH (a0 : Int) (aH bH : ByteArray) : ByteArray := if a0 < 3 then strOfNums ((bytesOf aH ++ bytesOf bH).take 3) else aH
theorem j1_eq (k : Nat) (r0 r1 r2 r3 s0 s1 s2 s3 : Int) (h : ByteArray) (hr1 : R64 r1) (hr2 : R64 r2) (ha : aT.size ≤ 3) (hb : bT.size ≤ 3) :
    weld_both.j1 (k + 2) a0 a1 a2 a3 aH aT b0 b1 b2 b3 bH bT s0 s1 s2 s3 r0 r1 r2 r3 h bT = some (if vM (r0, r1, r2, r3, h, jT b0 aT bT) = true then (r0, r1, r2, r3, h, jT b0 aT bT, s0, s1, s2, s3, 0) else (0, 0, 0, 0, ⟨#[]⟩, ⟨#[]⟩, 0, 0, 0, 0, 50)) := by
  rw [weld_both.j1]
  unfold jT
  by_cases h3 : b0 < 3
  · rw [if_pos h3, if_pos (by omega), tail_eq _ (by rw [← bytesOf_length, bo_append, List.length_append, bytesOf_length, bytesOf_length]; omega), Option.bind_some, if_pos h3]
    have hsz : (aT ++ bT).size = aT.size + bT.size := by rw [← bytesOf_length, bo_append, List.length_append, bytesOf_length, bytesOf_length]
    rw [bo_append, hsz, weldValid_eq k _ _ _ _ _ _ hr1 hr2, Option.bind_some]
    unfold vM
    dsimp only
    split <;> rfl
  · rw [if_neg h3, if_neg h3, weldValid_eq k _ _ _ _ _ _ hr1 hr2, Option.bind_some]
    unfold vM
    dsimp only
    split <;> rfl
set_option maxHeartbeats 2000000 in
theorem both_eq (k : Nat) (hk : 120 ≤ k) (ha1 : R64 a1) (ha2 : R64 a2) (hb1 : R64 b1) (hb2 : R64 b2) :
    weld_both.f k a0 a1 a2 a3 aH aT b0 b1 b2 b3 bH bT = some ((joM (a0, a1, a2, a3, aH, aT) (b0, b1, b2, b3, bH, bT)).1, (joM (a0, a1, a2, a3, aH, aT) (b0, b1, b2, b3, bH, bT)).2.1, (joM (a0, a1, a2, a3, aH, aT) (b0, b1, b2, b3, bH, bT)).2.2.1, (joM (a0, a1, a2, a3, aH, aT) (b0, b1, b2, b3, bH, bT)).2.2.2.1, (joM (a0, a1, a2, a3, aH, aT) (b0, b1, b2, b3, bH, bT)).2.2.2.2.1, (joM (a0, a1, a2, a3, aH, aT) (b0, b1, b2, b3, bH, bT)).2.2.2.2.2,
      0, (smM (a0, a1, a2, a3, aH, aT) (b0, b1, b2, b3, bH, bT)).1, (smM (a0, a1, a2, a3, aH, aT) (b0, b1, b2, b3, bH, bT)).2.1, (smM (a0, a1, a2, a3, aH, aT) (b0, b1, b2, b3, bH, bT)).2.2, erM (a0, a1, a2, a3, aH, aT) (b0, b1, b2, b3, bH, bT)) := by
  obtain ⟨k, rfl⟩ : ∃ m, k = m + 120 := ⟨k - 120, by omega⟩
  generalize hA : ((a0, a1, a2, a3, aH, aT) : Ms) = A
  generalize hB : ((b0, b1, b2, b3, bH, bT) : Ms) = B
  have vA : vldB a0 a1 a2 a3 (bytesOf aH) (bytesOf aT) = vM A := by rw [← hA]; rfl
  have vB : vldB b0 b1 b2 b3 (bytesOf bH) (bytesOf bT) = vM B := by rw [← hB]; rfl
  have hbad : ∀ x : Bool, x = true → ¬ (vM A = true ∧ vM B = true) → weld_both.j0 (k + 120) x a0 a1 a2 a3 aH aT b0 b1 b2 b3 bH bT = some ((joM A B).1, (joM A B).2.1, (joM A B).2.2.1, (joM A B).2.2.2.1, (joM A B).2.2.2.2.1, (joM A B).2.2.2.2.2, 0, (smM A B).1, (smM A B).2.1, (smM A B).2.2, erM A B) := by
    intro x hx hv
    have he := er_bad hv
    have hj : joM A B = m0 := by unfold joM; rw [he]; rfl
    have hs : smM A B = (0, 0, 0) := by unfold smM; rw [he]; rfl
    rw [hj, hs, he, weld_both.j0, if_pos hx]
    rfl
  unfold weld_both.f
  rw [weldValid_eq (k + 119) a0 a1 a2 a3 aH aT ha1 ha2, vA, Option.bind_some]
  by_cases hva : vM A = true
  · rw [if_pos hva, weldValid_eq (k + 119) b0 b1 b2 b3 bH bT hb1 hb2, vB, Option.bind_some]
    by_cases hvb : vM B = true
    · have rA := vld_range (vA.trans hva)
      have rB := vld_range (vB.trans hvb)
      rw [bytesOf_length, bytesOf_length] at rA rB
      have hAB : A.1 = a0 ∧ B.1 = b0 := by rw [← hA, ← hB]; exact ⟨rfl, rfl⟩
      rw [weld_both.j0, hvb, if_neg (by decide), w64 (n := a0 + b0) (by omega) (by omega)]
      by_cases hlong : a0 + b0 > 268435456
      · have he := er_long ⟨hva, hvb⟩ (show A.1 + B.1 > 268435456 by rw [hAB.1, hAB.2]; exact hlong)
        have hj : joM A B = m0 := by unfold joM; rw [he]; rfl
        have hs : smM A B = (0, 0, 0) := by unfold smM; rw [he]; rfl
        rw [if_pos hlong, hj, hs, he]
        rfl
      · have hnl : ¬ A.1 + B.1 > 268435456 := by rw [hAB.1, hAB.2]; exact hlong
        have sr := seamR_range (bytesOf aT) (bytesOf bH)
        have se := seamE_range (bytesOf aT) (bytesOf bH)
        rw [if_neg hlong, wSeam_eq a0 a1 a2 a3 b0 b1 b2 b3 aH aT bH bT (k + 119) (by omega) (by omega) (by omega), Option.bind_some]
        dsimp only
        rw [sum_eq a0 a1 a2 a3 b0 b1 b2 b3 1 (.inl rfl) (by omega) (by omega) (by omega) (by omega) (by omega) (by omega) (by omega) (by omega), Option.bind_some]
        dsimp only
        have e0 : weld_sum.f (a0 + 1 * b0) (a1 + 1 * b1) (a2 + 1 * b2) (a3 + 1 * b3) 0 (seamR (bytesOf aT) (bytesOf bH)).1 (seamR (bytesOf aT) (bytesOf bH)).2 (seamE (bytesOf aT) (bytesOf bH)) (-1) = some (a0 + b0, a1 + b1 - (seamR (bytesOf aT) (bytesOf bH)).1, a2 + b2 - (seamR (bytesOf aT) (bytesOf bH)).2, a3 + b3 - seamE (bytesOf aT) (bytesOf bH)) := by
          rw [sum_eq _ _ _ _ _ _ _ _ (-1) (.inr rfl) (by omega) (by omega) (by omega) (by omega) (by omega) (by omega) (by omega) (by omega)]
          congr 1
          simp only [Int.one_mul, Int.neg_mul, Int.neg_zero, Int.add_zero, Int.sub_eq_add_neg]
        rw [e0, Option.bind_some]
        dsimp only
        have hj := j1_eq a0 a1 a2 a3 b0 b1 b2 b3 aH aT bH bT (k + 117) (a0 + b0) (a1 + b1 - (seamR (bytesOf aT) (bytesOf bH)).1) (a2 + b2 - (seamR (bytesOf aT) (bytesOf bH)).2) (a3 + b3 - seamE (bytesOf aT) (bytesOf bH)) 0 (seamR (bytesOf aT) (bytesOf bH)).1 (seamR (bytesOf aT) (bytesOf bH)).2 (seamE (bytesOf aT) (bytesOf bH)) (jH a0 aH bH) ⟨by omega, by omega⟩ ⟨by omega, by omega⟩ (by omega) (by omega)
        have hJ : jnM A B = (a0 + b0, a1 + b1 - (seamR (bytesOf aT) (bytesOf bH)).1, a2 + b2 - (seamR (bytesOf aT) (bytesOf bH)).2, a3 + b3 - seamE (bytesOf aT) (bytesOf bH), jH a0 aH bH, jT b0 aT bT) := by rw [← hA, ← hB]; rfl
        rw [← hJ] at hj
        have hgo : weld_both.j1 (k + 119) a0 a1 a2 a3 aH aT b0 b1 b2 b3 bH bT 0 (seamR (bytesOf aT) (bytesOf bH)).1 (seamR (bytesOf aT) (bytesOf bH)).2 (seamE (bytesOf aT) (bytesOf bH)) (a0 + b0) (a1 + b1 - (seamR (bytesOf aT) (bytesOf bH)).1) (a2 + b2 - (seamR (bytesOf aT) (bytesOf bH)).2) (a3 + b3 - seamE (bytesOf aT) (bytesOf bH)) (jH a0 aH bH) bT =
            some ((joM A B).1, (joM A B).2.1, (joM A B).2.2.1, (joM A B).2.2.2.1, (joM A B).2.2.2.2.1, (joM A B).2.2.2.2.2, 0, (smM A B).1, (smM A B).2.1, (smM A B).2.2, erM A B) := by
          rw [hj]
          by_cases hvj : vM (jnM A B) = true
          · have he := er_fine ⟨hva, hvb⟩ hnl hvj
            have hjo : joM A B = jnM A B := by unfold joM; rw [if_pos he]
            have hs : smM A B = ((seamR (bytesOf aT) (bytesOf bH)).1, (seamR (bytesOf aT) (bytesOf bH)).2, seamE (bytesOf aT) (bytesOf bH)) := by unfold smM; rw [if_pos he, ← hA, ← hB]
            rw [if_pos hvj, hjo, hs, he, hJ]
          · have he := er_not ⟨hva, hvb⟩ hnl (by simpa using hvj)
            have hjo : joM A B = m0 := by unfold joM; rw [he]; rfl
            have hs : smM A B = (0, 0, 0) := by unfold smM; rw [he]; rfl
            rw [if_neg hvj, hjo, hs, he]
            rfl
        rw [← hgo]
        by_cases h3 : a0 < 3
        · rw [if_pos h3, if_pos (by omega), head_eq', Option.bind_some, bo_append]
          unfold jH
          rw [if_pos h3]
        · rw [if_neg h3]
          unfold jH
          rw [if_neg h3]
    · rw [Bool.not_eq_true] at hvb
      rw [hvb]
      exact hbad _ rfl (fun c => by rw [hvb] at c; cases c.2)
  · rw [if_neg hva]
    exact hbad _ rfl (fun c => hva c.1)
theorem wJoin_eq (k : Nat) (hk : 120 ≤ k) (ha1 : R64 a1) (ha2 : R64 a2) (hb1 : R64 b1) (hb2 : R64 b2) :
    weld_Join.f k a0 a1 a2 a3 aH aT b0 b1 b2 b3 bH bT = some ((joM (a0, a1, a2, a3, aH, aT) (b0, b1, b2, b3, bH, bT)).1, (joM (a0, a1, a2, a3, aH, aT) (b0, b1, b2, b3, bH, bT)).2.1, (joM (a0, a1, a2, a3, aH, aT) (b0, b1, b2, b3, bH, bT)).2.2.1, (joM (a0, a1, a2, a3, aH, aT) (b0, b1, b2, b3, bH, bT)).2.2.2.1, (joM (a0, a1, a2, a3, aH, aT) (b0, b1, b2, b3, bH, bT)).2.2.2.2.1, (joM (a0, a1, a2, a3, aH, aT) (b0, b1, b2, b3, bH, bT)).2.2.2.2.2, erM (a0, a1, a2, a3, aH, aT) (b0, b1, b2, b3, bH, bT)) := by
  unfold weld_Join.f
  rw [both_eq a0 a1 a2 a3 b0 b1 b2 b3 aH aT bH bT k hk ha1 ha2 hb1 hb2]
  rfl
end
end Go.Proofs.YteoonhidjldnfaaDoor.PuJn

namespace Go.Proofs.YteoonhidjldnfaaDoor.PuOf
open Go.RowKit Go.Proofs.YteoonhidjldnfaaDoor.Pr Go.Proofs.YteoonhidjldnfaaDoor.Math Go.Proofs.YteoonhidjldnfaaDoor.Ev Go.Proofs.YteoonhidjldnfaaDoor.PuSz Go.Proofs.YteoonhidjldnfaaDoor.PuMs Go.Proofs.YteoonhidjldnfaaDoor.PuSm Go.Proofs.YteoonhidjldnfaaDoor.PuJn Go.Proofs.YteoonhidjldnfaaDoorW.PrintWords Go.Proofs.YteoonhidjldnfaaDoorW.PrintLast Go.Proofs.YteoonhidjldnfaaDoorW.PrintMore
set_option linter.unusedVariables false
set_option linter.unusedSimpArgs false
theorem jn_of (a b : List Int) (ha : Byt a) (hb : Byt b) : jnM (mOf a) (mOf b) = mOf (a ++ b) := by
  have rf := rf_append a b
  have es := en_seam a b
  have e1 : seamR (a.drop (a.length - 3)) (b.take 3) = seamR a b := by rw [← seamR_last, ← seamR_take]
  have e2 : seamE (a.drop (a.length - 3)) (b.take 3) = seamE a b := (seamE_last a b).symm
  have hd : (if (a.length : Int) < 3 then strOfNums ((a.take 3 ++ b.take 3).take 3) else strOfNums (a.take 3)) = strOfNums ((a ++ b).take 3) := by
    by_cases h : (a.length : Int) < 3
    · rw [if_pos h, List.take_of_length_le (show a.length ≤ 3 by omega), List.take_append, List.take_append, List.take_take, show min (3 - a.length) 3 = 3 - a.length by omega]
    · rw [if_neg h, List.take_append_of_le_length (by omega)]
  have tl : (if (b.length : Int) < 3 then strOfNums ((a.drop (a.length - 3) ++ b.drop (b.length - 3)).drop ((a.drop (a.length - 3)).length + (b.drop (b.length - 3)).length - 3)) else strOfNums (b.drop (b.length - 3))) = strOfNums ((a ++ b).drop ((a ++ b).length - 3)) := by
    rw [List.length_append]
    by_cases h : (b.length : Int) < 3
    · rw [if_pos h, show b.length - 3 = 0 by omega, List.drop_zero]
      congr 1
      have e : a ++ b = a.take (a.length - 3) ++ (a.drop (a.length - 3) ++ b) := by rw [← List.append_assoc, List.take_append_drop]
      rw [e, List.drop_append (l₁ := a.take (a.length - 3)), List.drop_of_length_le (l := a.take (a.length - 3)) (by rw [List.length_take]; omega), List.nil_append, List.length_take, List.length_drop]
      congr 1
      omega
    · rw [if_neg h, show a.length + b.length - 3 = a.length + (b.length - 3) by omega, ← List.drop_drop, List.drop_left]
  unfold jnM mOf
  dsimp only
  rw [bo_str _ (ha.drop _), bo_str _ (ha.take 3), bo_str _ (hb.take 3), bo_str _ (hb.drop _), sz_str, sz_str, e1, e2, hd, tl, List.length_append, es, rf.2, rf.1, Int.natCast_add]
theorem vM_of (a : List Int) (ha : Byt a) (hl : a.length ≤ 268435456) : vM (mOf a) = true := by
  unfold vM mOf
  dsimp only
  rw [bo_str _ (ha.take 3), bo_str _ (ha.drop _)]
  exact vld_of a ha hl
theorem er_of (a b : List Int) (ha : Byt a) (hb : Byt b) (hl : a.length + b.length ≤ 268435456) : erM (mOf a) (mOf b) = 0 :=
  er_fine ⟨vM_of a ha (by omega), vM_of b hb (by omega)⟩ (by show ¬ (a.length : Int) + (b.length : Int) > 268435456; omega) (by rw [jn_of a b ha hb]; exact vM_of _ (ha.append hb) (by rw [List.length_append]; omega))
theorem jo_of (a b : List Int) (ha : Byt a) (hb : Byt b) (hl : a.length + b.length ≤ 268435456) : joM (mOf a) (mOf b) = mOf (a ++ b) := by
  unfold joM; rw [if_pos (er_of a b ha hb hl), jn_of a b ha hb]
theorem r64_of (a : List Int) (hl : a.length ≤ 4294967296) : R64 (mOf a).2.1 ∧ R64 (mOf a).2.2.1 := by
  have := rn_bounds' a
  unfold R64 mOf
  dsimp only
  omega
theorem join_of (k : Nat) (hk : 120 ≤ k) (a b : List Int) (ha : Byt a) (hb : Byt b) (hl : a.length + b.length ≤ 268435456) :
    weld_Join.f k (mOf a).1 (mOf a).2.1 (mOf a).2.2.1 (mOf a).2.2.2.1 (mOf a).2.2.2.2.1 (mOf a).2.2.2.2.2 (mOf b).1 (mOf b).2.1 (mOf b).2.2.1 (mOf b).2.2.2.1 (mOf b).2.2.2.2.1 (mOf b).2.2.2.2.2 =
      some ((mOf (a ++ b)).1, (mOf (a ++ b)).2.1, (mOf (a ++ b)).2.2.1, (mOf (a ++ b)).2.2.2.1, (mOf (a ++ b)).2.2.2.2.1, (mOf (a ++ b)).2.2.2.2.2, 0) := by
  have ra := r64_of a (by omega)
  have rb := r64_of b (by omega)
  rw [wJoin_eq _ _ _ _ _ _ _ _ _ _ _ _ k hk ra.1 ra.2 rb.1 rb.2]
  have e : ∀ x : List Int, ((mOf x).1, (mOf x).2.1, (mOf x).2.2.1, (mOf x).2.2.2.1, (mOf x).2.2.2.2.1, (mOf x).2.2.2.2.2) = mOf x := fun _ => rfl
  rw [e a, e b, jo_of a b ha hb hl, er_of a b ha hb hl]
end Go.Proofs.YteoonhidjldnfaaDoor.PuOf

namespace Go.Proofs.YteoonhidjldnfaaDoor.PuLfS
open Go.RowKit Go.Proofs.YteoonhidjldnfaaDoor.Pr Go.Proofs.YteoonhidjldnfaaDoor.Math Go.Proofs.YteoonhidjldnfaaDoor.PuSz Go.Proofs.YteoonhidjldnfaaDoor.PuMs Go.Proofs.YteoonhidjldnfaaDoor.PuSm Go.Proofs.YteoonhidjldnfaaDoor.PuJn Go.Proofs.YteoonhidjldnfaaDoor.PuOf Go.Proofs.YteoonhidjldnfaaDoorW.PrintWords Go.Proofs.YteoonhidjldnfaaDoorW.PrintLast Go.Proofs.YteoonhidjldnfaaDoorW.PrintMore
set_option linter.unusedVariables false
set_option linter.unusedSimpArgs false
def sOf (x : List Int) : S36 := ⟨⟨(mOf x).1, (mOf x).2.1, (mOf x).2.2.1, (mOf x).2.2.2.1⟩, (mOf x).2.2.2.2.1, (mOf x).2.2.2.2.2⟩
theorem rd_sOf (L : List (List Int)) (i : Nat) (h : i < L.length) : rd_T36 (L.map sOf) (i : Int) = sOf L[i] := by
  simp [rd_T36, List.getD, List.getElem?_eq_getElem h]
theorem byt_flat {L : List (List Int)} (h : ∀ x ∈ L, Byt x) : Byt L.flatten := fun y hy => by
  obtain ⟨x, hx, hy'⟩ := List.mem_flatten.1 hy
  exact h x hx y hy'
theorem flat_take (L : List (List Int)) (i : Nat) (h : i < L.length) : (L.take i).flatten ++ L[i] = (L.take (i + 1)).flatten := by
  rw [List.take_succ_eq_append_getElem h, List.flatten_append]; simp
theorem len_part (L : List (List Int)) (i : Nat) : ((L.take i).flatten).length + ((L.drop i).flatten).length = L.flatten.length := by
  rw [← List.length_append, ← List.flatten_append, List.take_append_drop]
theorem sum_l0 (L : List (List Int)) (hb : ∀ x ∈ L, Byt x) (hl : L.flatten.length ≤ 268435456) (hn : L.length ≤ 268435456) (d : Nat) : ∀ (k i : Nat), i + d = L.length →
    weld_Sum.l0 (k + 130 + d) (L.map sOf) (L.length : Int) i (mOf (L.take i).flatten).1 (mOf (L.take i).flatten).2.1 (mOf (L.take i).flatten).2.2.1 (mOf (L.take i).flatten).2.2.2.1 (mOf (L.take i).flatten).2.2.2.2.1 (mOf (L.take i).flatten).2.2.2.2.2 =
      some ((mOf L.flatten).1, (mOf L.flatten).2.1, (mOf L.flatten).2.2.1, (mOf L.flatten).2.2.2.1, (mOf L.flatten).2.2.2.2.1, (mOf L.flatten).2.2.2.2.2, 0) := by
  induction d with
  | zero =>
    intro k i hi
    rw [show k + 130 + 0 = (k + 129) + 1 from rfl, weld_Sum.l0, if_neg (by omega), List.take_of_length_le (by omega)]
  | succ d ih =>
    intro k i hi
    have hil : i < L.length := by omega
    have hp := len_part L (i + 1)
    have hft := flat_take L i hil
    have hlen : (L.take i).flatten.length + L[i].length ≤ 268435456 := by
      have := congrArg List.length hft
      rw [List.length_append] at this
      omega
    have hj := join_of (k + 130 + d) (by omega) (L.take i).flatten L[i] (byt_flat (fun x hx => hb x (List.mem_of_mem_take hx))) (hb _ (List.getElem_mem hil)) (by omega)
    rw [show k + 130 + (d + 1) = (k + 130 + d) + 1 from rfl, weld_Sum.l0, if_pos (by omega), if_pos (by omega), if_pos (by rw [List.length_map]; omega), rd_sOf L i hil]
    dsimp only [sOf]
    rw [hj, Option.bind_some]
    dsimp only
    rw [if_pos rfl, w64 (by omega) (by omega), hft]
    exact ih k (i + 1) (by omega)
theorem sum_eq' (L : List (List Int)) (hb : ∀ x ∈ L, Byt x) (hl : L.flatten.length ≤ 268435456) (hn : L.length ≤ 268435456) (k : Nat) (hk : 130 + L.length ≤ k) :
    weld_Sum.f k (L.map sOf) = some ((mOf L.flatten).1, (mOf L.flatten).2.1, (mOf L.flatten).2.2.1, (mOf L.flatten).2.2.2.1, (mOf L.flatten).2.2.2.2.1, (mOf L.flatten).2.2.2.2.2, 0) := by
  have h := sum_l0 L hb hl hn L.length (k - 130 - L.length) 0 (by omega)
  rw [show k - 130 - L.length + 130 + L.length = k by omega, List.take_zero, List.flatten_nil, mOf_nil, Int.natCast_zero] at h
  unfold weld_Sum.f
  rw [List.length_map]
  exact h
theorem cutF_flat (l : List Int) (m : Nat) (hm : 1 ≤ m) (f : Nat) : ∀ p, p ≤ l.length → l.length - p < f → (cutF l m f p).flatten = l.drop p := by
  induction f with
  | zero => intro p _ h; omega
  | succ f ih =>
    intro p hp hf
    have hin := cutTo_in l m p hm
    rw [cutF]
    split
    · rename_i hlt
      rw [List.flatten_cons, ih _ (by omega) (by omega)]
      conv => rhs; rw [← List.take_append_drop (cutTo l m p) l]
      rw [List.drop_append_of_le_length (by rw [List.length_take]; omega)]
    · split
      · simp
      · rw [List.drop_eq_nil_of_le (by omega)]; rfl
theorem cutP_flat (l : List Int) (m : Nat) (hm : 1 ≤ m) : (cutP l m).flatten = l := by
  have := cutF_flat l m hm (l.length + 1) 0 (by omega) (by omega)
  rwa [List.drop_zero] at this
theorem cutF_mem (l : List Int) (hb : Byt l) (m : Nat) (hm : 1 ≤ m) (f : Nat) : ∀ p, ∀ x ∈ cutF l m f p, Byt x ∧ x.length ≤ m := by
  induction f with
  | zero => intro p x hx; cases hx
  | succ f ih =>
    intro p x hx
    have hin := cutTo_in l m p hm
    rw [cutF] at hx
    split at hx
    · rcases List.mem_cons.1 hx with rfl | hx
      · exact ⟨(hb.take _).drop p, by rw [List.length_drop, List.length_take]; omega⟩
      · exact ih _ x hx
    · split at hx
      · rw [List.mem_singleton.1 hx]
        exact ⟨hb.drop p, by rw [List.length_drop]; omega⟩
      · cases hx
theorem cutF_len (l : List Int) (m : Nat) (hm : 1 ≤ m) (f : Nat) : ∀ p, (cutF l m f p).length + p ≤ max p l.length := by
  induction f with
  | zero => intro p; simp [cutF]; omega
  | succ f ih =>
    intro p
    have hin := cutTo_in l m p hm
    have := ih (cutTo l m p)
    rw [cutF]
    split
    · rw [List.length_cons]; omega
    · split <;> simp <;> omega
theorem cutP_len (l : List Int) (m : Nat) (hm : 1 ≤ m) : (cutP l m).length ≤ l.length := by
  have := cutF_len l m hm (l.length + 1) 0
  unfold cutP
  omega
end Go.Proofs.YteoonhidjldnfaaDoor.PuLfS

namespace Go.Proofs.YteoonhidjldnfaaDoor.Pr
open Go.RowKit Go.Proofs.YteoonhidjldnfaaDoor.Math Go.Proofs.YteoonhidjldnfaaDoor.PuSz Go.Proofs.YteoonhidjldnfaaDoor.PuMs Go.Proofs.YteoonhidjldnfaaDoor.PuLfS Go.Proofs.YteoonhidjldnfaaDoorW.PrintWords Go.Proofs.YteoonhidjldnfaaDoorW.PrintLast Go.Proofs.YteoonhidjldnfaaDoorW.PrintMore
set_option linter.unusedVariables false
set_option linter.unusedSimpArgs false
theorem infoU8 : (Tryd.prog.info? 5).map (fun i => (i.zero, i.size, i.bytes)) = some (some (.int .u8 0), 1, 1) := by kernel_rfl
theorem infoWeld : (Tryd.prog.info? 36).map (fun i => (i.zero, i.size, i.bytes)) = some (some (.agg #[.int .i64 0, .int .i64 0, .int .i64 0, .int .i64 0, .string ⟨#[]⟩, .string ⟨#[]⟩]), 6, 64) := by kernel_rfl
theorem weld_at3 (b : Nat) (s : ByteArray) (m1 m2 m3 m4 : Int) (m5 m6 : ByteArray) (w : World) (h : Lf w b s) (hm : mOf (bytesOf s) = (m1, m2, m3, m4, m5, m6)) : Calls Tryd.prog 15 #[lfP b] w fun e w' => e = .returned (.agg #[.int .i64 m1, .int .i64 m2, .int .i64 m3, .int .i64 m4, .string m5, .string m6]) ∧ Below w.heap.size w w' := by
  have := leaf_Weld.calls b s w h
  rw [hm] at this
  exact this
theorem refOf_at3 (A : Option Addr) (n c : Nat) (l : List Int) (w : World) (hn : l.length = n) (hb : Byt l) (hl : n ≤ 268435456) (m1 m2 m3 m4 : Int) (m5 m6 : ByteArray) (hm : mOf l = (m1, m2, m3, m4, m5, m6)) (hr : Kd.C (Kd.int .u8) w A l.length l) (hc : n ≤ c) :
    Calls Tryd.prog 25 #[.slice A n c] w fun e w' => e = .returned (.agg #[.int .i64 m1, .int .i64 m2, .int .i64 m3, .int .i64 m4, .string m5, .string m6]) ∧ Below w.heap.size w w' := by
  have := refOf_any A n c l w hn hb hl hr hc
  rw [hm] at this
  exact this
theorem leaves_any {W : World} {base : Nat} {ok : Nat → Prop} {v : Value} {ps : List ByteArray} (h : Kd.R kLf 22 W base ok v ps) :
    ∃ A c, v = .slice A ps.length c ∧ ∀ i (hi : i < ps.length), ∃ g b, A = some ⟨g, 0, none⟩ ∧ W.cell? ⟨g, i, none⟩ = some (lfP b) ∧ Lf W b ps[i] := by
  by_cases hn : 0 < ps.length
  · obtain ⟨g, c, rfl, _, _, hat⟩ := leaves_open h hn
    exact ⟨_, c, rfl, fun i hi => by obtain ⟨b, h1, h2⟩ := hat i hi; exact ⟨g, b, rfl, h1, h2⟩⟩
  · obtain ⟨_, inner, ho, hr⟩ := h
    rcases ho.2 with ⟨rfl, h0⟩ | ⟨g, cap, cur, rfl, hg, hh, h1, h2, h3, h4⟩
    · exact ⟨none, 0, by rw [show ps.length = 0 by omega], fun i hi => absurd hi (by omega)⟩
    · exact ⟨_, cap, rfl, fun i hi => absurd hi (by omega)⟩
theorem slices_any {W : World} {base : Nat} {ok : Nat → Prop} {v : Value} {vs : List Sl} (h : Kd.R kSl 26 W base ok v vs) :
    ∃ A c, v = .slice A vs.length c ∧ ∀ i (hi : i < vs.length), ∃ g, A = some ⟨g, 0, none⟩ ∧ W.cell? ⟨g, i, none⟩ = some (.slice vs[i].1 vs[i].2.1 vs[i].2.2) := by
  obtain ⟨_, inner, ho, hr⟩ := h
  rcases ho.2 with ⟨rfl, h0⟩ | ⟨g, cap, cur, rfl, hg, hh, h1, h2, h3, h4⟩
  · exact ⟨none, 0, by rw [h0], fun i hi => absurd hi (by omega)⟩
  · refine ⟨_, cap, rfl, fun i hi => ⟨g, rfl, ?_⟩⟩
    have hb : (inner.drop (i * kSl.sz)).take kSl.sz = [.slice vs[i].1 vs[i].2.1 vs[i].2.2] := hr.2 i vs[i] (List.getElem?_eq_getElem hi)
    have hsz : kSl.sz = 1 := rfl
    rw [hsz] at h4 hb
    rw [Nat.mul_one] at h4 hb
    rw [cell_of_row _ _ _ _ _ _ hh]
    have e : inner[i]? = some (.slice vs[i].1 vs[i].2.1 vs[i].2.2) := by
      have := congrArg (fun z => z[0]?) hb
      simp at this
      exact this
    rw [← h4, List.getElem?_take, if_pos hi, Array.getElem?_toList] at e
    exact e
theorem R_other {α β : Type} {d : Kd α} {d' : Kd β} {e e' base base' : Nat} {ok ok' : Nat → Prop} {W w1 : World} {u v : Value} {xs : List α} {ys : List β} (h : d.R e W base ok u xs) (hv : d'.R e' W base' ok' v ys) (ht : ∀ q, q ∈ e :: d.E → q ≠ e') (hg : W.grownBy w1 v.ownBlock) : d.R e w1 base ok u xs :=
  Kd.R_over' h (Kd.R_typed hv) ht hg
theorem bytes_row (w : World) (s : ByteArray) (pc : List Int) (hs : s.size ≤ 268435456) (hp : bytesOf s = pc) : Kd.C (Kd.int .u8) (Lib.bytesWorld w 5 s) (some ⟨w.heap.size, 0, none⟩) s.size pc := by
  have := bytes_C w s hs
  rw [hp] at this
  rwa [← hp, bytesOf_length, hp] at this
theorem cuts_keep {W0 W : World} {b : Nat} {i1 i2 i3 i4 : Int} {s1 s2 : ByteArray} {T : TypeId} {Aa A : Option Addr} {ca c : Nat} {l : List Int} {s : ByteArray} (hs : strOfNums l = s) (hb : Below W0.heap.size W0 W) (h : W0.heap[b]? = some (.cells #[.int .i64 i1, .int .i64 i2, .int .i64 i3, .int .i64 i4, .string s1, .string s2] T (0, 0))) (c1 : Kd.C (Kd.int .u8) W0 Aa l.length l) (c2 : Kd.C (Kd.int .u8) W0 A l.length l) :
    W.cell? ⟨b, 0, none⟩ = some (.int .i64 i1) ∧ W.cell? ⟨b, 1, none⟩ = some (.int .i64 i2) ∧ W.cell? ⟨b, 2, none⟩ = some (.int .i64 i3) ∧ W.cell? ⟨b, 3, none⟩ = some (.int .i64 i4) ∧ W.cell? ⟨b, 4, none⟩ = some (.string s1) ∧ W.cell? ⟨b, 5, none⟩ = some (.string s2) ∧ Sem.run Tryd.prog (convert 26 9 (.slice Aa l.length ca)) W = .ok (.string s) W ∧ Sem.run Tryd.prog (convert 26 9 (.slice A l.length c)) W = .ok (.string s) W := by
  have h' := blk_below h hb
  subst hs
  exact ⟨blk_cell h' 0, blk_cell h' 1, blk_cell h' 2, blk_cell h' 3, blk_cell h' 4, blk_cell h' 5, conv_str _ _ _ _ (Kd.C_below c1 hb), conv_str _ _ _ _ (Kd.C_below c2 hb)⟩
set_option maxHeartbeats 8000000 in
set_option maxRecDepth 100000 in
theorem law_LeafCuts.bad (A : Option Addr) (c : Nat) (l : List Int) (hby : Byt l) (m : Int) (hm : m < 1 ∨ 4096 < m) (w : World) (hG : Glob.Globs w) (hr : Kd.C (Kd.int .u8) w A l.length l) (hc : l.length ≤ c) (hll : l.length ≤ 140737488351232) :
    Calls Tryd.prog 8 #[.slice A l.length c, .int .i64 m] w fun e w' => e = .returned (.bool true) ∧ Below w.heap.size w w' := by
  have HG := Lib.hid hG
  have HR := Lib.hid hr
  have HC := Lib.hid hc
  have HY := Lib.hid hby
  have HL := Lib.hid hll
  have HM := Lib.hid hm
  clear hG hr hc hby hll hm
  go_enter Tryd.func8, Tryd.ntmps8
  go_wp2_with (first | (go_at_call 12; (with_reducible refine (law_fixed.calls _ HG.out).mono ?_); rintro e w1 ⟨rfl, hb1⟩; have HB1 := Lib.hid hb1; clear hb1) | (go_at_call 21; (with_reducible refine (refCut.bad _ _ _ _ HM.out _).mono ?_); rintro e w' ⟨rfl, rfl⟩; skip) | ((with_reducible refine gate_dst (N := 24) rfl ?_); refine Kd.R_lit (Kd.int .u8) _ 5 ?hg (N := 24) ?hd (xs := ([] : List Int)) (inner := []) (ok := fun _ => True) (okp := fun _ => True) ?hr ?hp (fun _ hk => hk) trivial (Below.refl _ _) (Nat.le_refl _) (by simp) ?_; (case hd => rfl); (case hg => rfl); (case hr => first | (go_simp; done) | (go_simp; rfl)); (case hp => exact (Reps.none _ _)); intro v1 w2 ho hb hg_ hnew_; have HO2 := Lib.hid ho; have HB2 := Lib.hid hb; clear ho hb hg_ hnew_) | ((with_reducible refine gate_builtin (b := .append) (xs := #[.tmp 24, .tmp 25]) rfl ?_); at_builtin; refine Kd.R_append_rows (Kd.int .u8) (w0 := w1) w1.heap.size rfl (.tmp 24) (.tmp 25) 26 5 (.int .u8 0) 1 rfl Tryd.underlying26 infoU8 rfl (by decide) (by decide) v1 ([] : List Int) l _ _ _ (fun _ => True) (fun _ => False) rfl rfl ?aO ?aR (fun _ _ h => h) (fun _ h => h.elim) ?aF ?aB ?aS ?aL ?_; (case aR => exact Kd.C_below HR.out (below_step HB1.out HB2.out)); (case aB => exact HB2.out); (case aF => exact (fun _ _ => trivial)); (case aO => exact HO2.out); (case aS => exact (HB2.out).size); (case aL => exact by have := HL.out; simp; omega); intro v2 w3 ho hb hg hat; (first | rw [List.nil_append] at ho | rw [HLC.out] at ho); obtain ⟨Ax, cx, hx⟩ := Kd.R_slice ho; subst hx; have HO3 := Lib.hid (Kd.R_reads' ho); have HB3 := Lib.hid (below_step HB1.out hb); clear ho hb hg hat) | (go_at_call 11; (with_reducible refine (leaf_Cut.bad _ _ _ _ HM.out _).mono ?_); rintro e w' ⟨rfl, rfl⟩; skip))
  go_loopw [9, 10, 43] (fun v9 v10 v43 wr => v43 = .int .i64 0 ∧ Hid (Below w.heap.size w wr)) (fun _ _ _ _ => 0)
  case atStart => exact ⟨rfl, HB3⟩
  case round =>
    obtain ⟨rfl, HB4⟩ := hrel
    go_wp2_with fail
    go_ret
    exact ⟨rfl, HB4.out⟩
set_option maxHeartbeats 8000000 in
set_option maxRecDepth 100000 in
theorem law_LeafCuts.long (A : Option Addr) (c : Nat) (l : List Int) (hby : Byt l) (m : Int) (hm : 1 ≤ m ∧ m ≤ 4096) (hx : 268435456 < l.length) (w : World) (hG : Glob.Globs w) (hr : Kd.C (Kd.int .u8) w A l.length l) (hc : l.length ≤ c) (hll : l.length ≤ 140737488351232) :
    Calls Tryd.prog 8 #[.slice A l.length c, .int .i64 m] w fun e w' => e = .returned (.bool true) ∧ Below w.heap.size w w' := by
  have HG := Lib.hid hG
  have HR := Lib.hid hr
  have HC := Lib.hid hc
  have HY := Lib.hid hby
  have HL := Lib.hid hll
  have HM := Lib.hid hm
  have HX := Lib.hid hx
  have HXM := Lib.hid (show l.length ≤ 9223372036854775807 by omega)
  clear hG hr hc hby hll hm hx
  go_enter Tryd.func8, Tryd.ntmps8
  go_wp2_with (first | (go_at_call 12; (with_reducible refine (law_fixed.calls _ HG.out).mono ?_); rintro e w1 ⟨rfl, hb1⟩; have HB1 := Lib.hid hb1; clear hb1) | (go_at_call 21; (with_reducible refine (refCut.long _ _ _ _ HM.out HX.out HXM.out _).mono ?_); rintro e w' ⟨rfl, rfl⟩; skip) | ((with_reducible refine gate_dst (N := 24) rfl ?_); refine Kd.R_lit (Kd.int .u8) _ 5 ?hg (N := 24) ?hd (xs := ([] : List Int)) (inner := []) (ok := fun _ => True) (okp := fun _ => True) ?hr ?hp (fun _ hk => hk) trivial (Below.refl _ _) (Nat.le_refl _) (by simp) ?_; (case hd => rfl); (case hg => rfl); (case hr => first | (go_simp; done) | (go_simp; rfl)); (case hp => exact (Reps.none _ _)); intro v1 w2 ho hb hg_ hnew_; have HO2 := Lib.hid ho; have HB2 := Lib.hid hb; clear ho hb hg_ hnew_) | ((with_reducible refine gate_builtin (b := .append) (xs := #[.tmp 24, .tmp 25]) rfl ?_); at_builtin; refine Kd.R_append_rows (Kd.int .u8) (w0 := w1) w1.heap.size rfl (.tmp 24) (.tmp 25) 26 5 (.int .u8 0) 1 rfl Tryd.underlying26 infoU8 rfl (by decide) (by decide) v1 ([] : List Int) l _ _ _ (fun _ => True) (fun _ => False) rfl rfl ?aO ?aR (fun _ _ h => h) (fun _ h => h.elim) ?aF ?aB ?aS ?aL ?_; (case aR => exact Kd.C_below HR.out (below_step HB1.out HB2.out)); (case aB => exact HB2.out); (case aF => exact (fun _ _ => trivial)); (case aO => exact HO2.out); (case aS => exact (HB2.out).size); (case aL => exact by have := HL.out; simp; omega); intro v2 w3 ho hb hg hat; (first | rw [List.nil_append] at ho | rw [HLC.out] at ho); obtain ⟨Ax, cx, hx⟩ := Kd.R_slice ho; subst hx; have HO3 := Lib.hid (Kd.R_reads' ho); have HB3 := Lib.hid (below_step HB1.out hb); clear ho hb hg hat) | (go_at_call 11; (with_reducible refine (leaf_Cut.long _ _ _ _ HM.out HX.out HXM.out _).mono ?_); rintro e w' ⟨rfl, rfl⟩; skip))
  go_loopw [9, 10, 43] (fun v9 v10 v43 wr => v43 = .int .i64 0 ∧ Hid (Below w.heap.size w wr)) (fun _ _ _ _ => 0)
  case atStart => exact ⟨rfl, HB3⟩
  case round =>
    obtain ⟨rfl, HB4⟩ := hrel
    go_wp2_with fail
    go_ret
    exact ⟨rfl, HB4.out⟩
set_option maxHeartbeats 8000000 in
set_option maxRecDepth 100000 in
theorem law_LeafCuts.ok (A : Option Addr) (c : Nat) (l : List Int) (hby : Byt l) (m : Nat) (hm1 : 1 ≤ m) (hm2 : m ≤ 4096) (hx : l.length ≤ 268435456) (w : World) (hG : Glob.Globs w) (hr : Kd.C (Kd.int .u8) w A l.length l) (hc : l.length ≤ c) (hll : l.length ≤ 140737488351232) :
    Calls Tryd.prog 8 #[.slice A l.length c, .int .i64 (m : Int)] w fun e w' => e = .returned (.bool true) ∧ Below w.heap.size w w' := by
  have HG := Lib.hid hG
  have HR := Lib.hid hr
  have HC := Lib.hid hc
  have HY := Lib.hid hby
  have HL := Lib.hid hll
  have HM1 := Lib.hid hm1
  have HM2 := Lib.hid hm2
  have HX := Lib.hid hx
  obtain ⟨n, hn⟩ : ∃ n, (cutP l m).length = n := ⟨_, rfl⟩
  have hnl := cutP_len l m hm1
  have HNN := Lib.hid hn
  have HNL := Lib.hid (show n ≤ 268435456 by omega)
  have hcvb := fun (W : World) (hb : Below w.heap.size w W) => conv_str A c l W (Kd.C_below hr hb)
  have HCV := Lib.hid hcvb
  clear hG hr hc hby hll hm1 hm2 hx hn hnl hcvb
  go_enter Tryd.func8, Tryd.ntmps8
  go_wp2_with (first | (go_at_call 12; (with_reducible refine (law_fixed.calls _ HG.out).mono ?_); rintro e w1 ⟨rfl, hb1⟩; have HB1 := Lib.hid hb1; clear hb1) | (go_at_call 21; (with_reducible refine (refCut.ok A c l m HM1.out HM2.out HX.out HY.out _ ?side1 HC.out).mono ?_); (case side1 => exact Kd.C_below HR.out HB1.out); rintro e w2 ⟨v, vs, rfl, hR, hSL, hb⟩; obtain ⟨Aw, cw, hvw, hatw⟩ := slices_any hR; rw [hSL.1, HNN.out] at hvw; subst hvw; have HATW := Lib.hid hatw; have HSL := Lib.hid (SlAre.below hSL hb); have HB2 := Lib.hid (below_step HB1.out hb); clear hR hSL hb hatw) | ((with_reducible refine gate_dst (N := 24) rfl ?_); refine Kd.R_lit (Kd.int .u8) _ 5 ?hg (N := 24) ?hd (xs := ([] : List Int)) (inner := []) (ok := fun _ => True) (okp := fun _ => True) ?hr ?hp (fun _ hk => hk) trivial (Below.refl _ _) (Nat.le_refl _) (by simp) ?_; (case hd => rfl); (case hg => rfl); (case hr => first | (go_simp; done) | (go_simp; rfl)); (case hp => exact (Reps.none _ _)); intro v1 w3 ho hb hg_ hnew_; have HO3 := Lib.hid ho; have HB3 := Lib.hid hb; clear ho hb hg_ hnew_) | ((with_reducible refine gate_builtin (b := .append) (xs := #[.tmp 24, .tmp 25]) rfl ?_); at_builtin; refine Kd.R_append_rows (Kd.int .u8) (w0 := w2) w2.heap.size rfl (.tmp 24) (.tmp 25) 26 5 (.int .u8 0) 1 rfl Tryd.underlying26 infoU8 rfl (by decide) (by decide) v1 ([] : List Int) l _ _ _ (fun _ => True) (fun _ => False) rfl rfl ?aO ?aR (fun _ _ h => h) (fun _ h => h.elim) ?aF ?aB ?aS ?aL ?_; (case aR => exact Kd.C_below HR.out (below_step HB2.out HB3.out)); (case aB => exact HB3.out); (case aF => exact (fun _ _ => trivial)); (case aO => exact HO3.out); (case aS => exact (HB3.out).size); (case aL => exact by have := HL.out; simp; omega); intro v2 w4 ho hb hg hat; (first | rw [List.nil_append] at ho | rw [HLC.out] at ho); obtain ⟨Ax, cx, hx⟩ := Kd.R_slice ho; subst hx; have HO4 := Lib.hid (Kd.R_reads' ho); have HB24 := Lib.hid hb; have HB4 := Lib.hid (below_step HB2.out hb); clear ho hb hg hat) | (go_at_call 11; (with_reducible refine (leaf_Cut.ok _ _ l m HM1.out HM2.out HX.out HY.out _ ?side1 ?side2 HO4.out.2.1).mono ?_); (case side1 => exact Glob.Globs_below HG.out HB4.out); (case side2 => exact HO4.out.2.2); rintro e w5 ⟨v4, rfl, hR, hb⟩; obtain ⟨Al, cl, hvl, hat⟩ := leaves_any hR; rw [List.length_map, HNN.out] at hvl; subst hvl; have HAT := Lib.hid hat; have HB25 := Lib.hid (below_step HB24.out hb); have HB5 := Lib.hid (below_step HB4.out hb); clear hR hb hat))
  go_loopw [9, 10, 43] (fun v9 v10 v43 wr => ∃ (i : Nat), v43 = .int .i64 (i : Int) ∧ Hid (i ≤ n) ∧ Hid (Kd.R (Kd.int .u8) 5 wr w5.heap.size (fun _ => True) v9 ((cutP l m).take i).flatten) ∧ Hid (Kd.R k36 36 wr w5.heap.size (fun _ => True) v10 (((cutP l m).take i).map sOf)) ∧ Hid (Below w5.heap.size w5 wr))
    (fun _ _ i _ => n - (intOf i).toNat)
  case atStart => exact ⟨0, rfl, Lib.hid (Nat.zero_le _), Lib.hid (Kd.R_nil _ _ _ _ _), Lib.hid (Kd.R_nil _ _ _ _ _), Lib.hid (Below.refl _ _)⟩
  case round =>
    obtain ⟨i, rfl, HI, HO9, HO10, HB⟩ := hrel
    by_cases hi : i < n
    · have q1 : decide ((i : Int) < (n : Int)) = true := decide_eq_true (by omega)
      have hip : i < (cutP l m).length := by rw [HNN.out]; exact hi
      have hiv : i < vs.length := by rw [HSL.out.1, HNN.out]; exact hi
      have his : i < ((cutP l m).map strOfNums).length := by rw [List.length_map]; exact hip
      obtain ⟨gw, rfl, hcw⟩ := HATW.out i hiv
      obtain ⟨gl, b, rfl, hcl, hL⟩ := HAT.out i his
      obtain ⟨Ap, cp, e1, e2, e3⟩ := HSL.out.2 i hiv hip
      have hce := below_cell HB.out hcl
      have hcx := below_cell (below_step HB25.out HB.out) hcw
      rw [e1] at hcx
      dsimp only at hcx
      obtain ⟨pc, hpc⟩ : ∃ pc, (cutP l m)[i] = pc := ⟨_, rfl⟩
      have hmem := cutF_mem l HY.out m HM1.out (l.length + 1) 0 pc (by rw [← hpc]; exact List.getElem_mem hip)
      have hft := flat_take (cutP l m) i hip
      have hsm : (cutP l m).take (i + 1) = (cutP l m).take i ++ [pc] := by rw [List.take_succ_eq_append_getElem hip, hpc]
      have hlp := len_part (cutP l m) (i + 1)
      rw [cutP_flat l m HM1.out] at hlp
      rw [hpc] at hft e2 e3 hcx
      have hsx : ((cutP l m).map strOfNums)[i] = strOfNums pc := by rw [List.getElem_map, hpc]
      rw [hsx] at hL
      obtain ⟨s, hs⟩ : ∃ s, strOfNums pc = s := ⟨_, rfl⟩
      have hbs : bytesOf s = pc := by rw [← hs]; exact bo_str pc hmem.1
      have hsz : s.size = pc.length := by rw [← hs]; exact sz_str pc
      rw [hs] at hL
      have HSX := Lib.hid (show s.size ≤ 268435456 by have := hmem.2; have := HM2.out; omega)
      have HLS := Lib.hid hL
      have HBS := Lib.hid hbs
      have HFL := Lib.hid (show ((cutP l m).take i).flatten.length + s.size ≤ 268435456 by have := congrArg List.length hft; rw [List.length_append] at this; have := HX.out; omega)
      have HFT := Lib.hid hft
      have HSM := Lib.hid hsm
      have HE2 := Lib.hid e2
      have HE3 := Lib.hid (Kd.C_below e3 (below_step HB25.out HB.out))
      obtain ⟨M, hM⟩ : ∃ M, mOf pc = M := ⟨_, rfl⟩
      have HMM := Lib.hid (show mOf (bytesOf s) = M by rw [hbs]; exact hM)
      have HSO := Lib.hid (show sOf pc = ⟨⟨M.1, M.2.1, M.2.2.1, M.2.2.2.1⟩, M.2.2.2.2.1, M.2.2.2.2.2⟩ by unfold sOf; rw [hM])
      clear hM
      obtain ⟨m1, m2, m3, m4, m5, m6⟩ := M
      have p3 : (i : Int) ≤ 268435456 := by have := HNL.out; omega
      have HLF := Lib.hid (show ((cutP l m).take i).length = i by rw [List.length_take]; omega)
      clear hcl hcw hL e1 e2 e3 hpc hmem hft hsm hlp hsx hs hbs hsz hip hiv his
      go_wp2_with (first | (go_at_call 22; (with_reducible refine (law_is.ok b s Ap _ cp pc rfl HBS.out HSX.out _ ?side1 HE3.out HE2.out).mono ?_); (case side1 => exact HLS.out.below HB.out); rintro e w6 ⟨rfl, hb⟩; have HB6 := Lib.hid (below_step HB.out (below_step hb (bytes_below w6 s))); have HL6 := Lib.hid (HLS.out.below (below_step HB.out hb)); have HO96 := Lib.hid (Kd.R_below HO9.out (below_step hb (bytes_below w6 s))); have HO106 := Lib.hid (Kd.R_below HO10.out (below_step hb (bytes_below w6 s))); clear hb) | (go_at_call 19; (with_reducible refine (leaf_Bytes.calls b s _ HL6.out).mono ?_); rintro e w' ⟨rfl, rfl⟩; skip) | ((with_reducible refine gate_builtin (b := .append) (xs := #[.tmp 55, .tmp 57]) rfl ?_); at_builtin; refine Kd.R_append_rows (Kd.int .u8) (w0 := w5) w5.heap.size rfl (.tmp 55) (.tmp 57) 26 5 (.int .u8 0) 1 rfl Tryd.underlying26 infoU8 rfl (by decide) (by decide) u9 ((cutP l m).take i).flatten pc _ _ _ (fun _ => True) (fun _ => False) rfl rfl ?aO ?aR (fun _ _ h => h) (fun _ h => h.elim) ?aF ?aB ?aS ?aL ?_; (case aR => exact bytes_row _ s pc HSX.out HBS.out); (case aB => exact HB6.out); (case aF => exact (fun _ _ => trivial)); (case aO => exact HO96.out); (case aS => exact (HB6.out).size); (case aL => exact by have := HFL.out; omega); intro v11 w7 ho hb hg hat; rw [HFT.out] at ho; have HO97 := Lib.hid ho; have HB7 := Lib.hid hb; have HO107 := Lib.hid (R_other HO106.out HO96.out (by intro q hq; rcases List.mem_cons.1 hq with rfl | hq; exact (by decide); cases hq) hg); clear ho hb hg hat) | (go_at_call 15; (with_reducible refine (weld_at3 b s m1 m2 m3 m4 m5 m6 _ (HLS.out.below HB7.out) HMM.out).mono ?_); rintro e w8 ⟨rfl, hb⟩; have HB8 := Lib.hid (below_step HB7.out hb); have HO98 := Lib.hid (Kd.R_below HO97.out hb); have HO108 := Lib.hid (Kd.R_below HO107.out hb); clear hb) | ((with_reducible refine gate_builtin (b := .append) (xs := #[.tmp 59, .tmp 62]) rfl ?_); at_builtin; (refine Kd.R_append k36 (w0 := w5) w5.heap.size rfl (.tmp 59) (.tmp 62) 52 36 (.agg #[.int .i64 0, .int .i64 0, .int .i64 0, .int .i64 0, .string ⟨#[]⟩, .string ⟨#[]⟩]) 64 rfl Tryd.underlying52 infoWeld rfl (by decide) (by decide) u10 (((cutP l m).take i).map sOf) ⟨⟨m1, m2, m3, m4⟩, m5, m6⟩ [.int .i64 m1, .int .i64 m2, .int .i64 m3, .int .i64 m4, .string m5, .string m6] (fun _ => True) (fun k => some k ≠ u10.ownBlock) rfl rfl ?aP (fun k hk => ⟨trivial, hk⟩) (fun _ _ => trivial) HO108.out HB8.out HB8.out.size ?aL ?_); (case aP => exact k36_mkM _ _ _ ⟨⟨m1, m2, m3, m4⟩, m5, m6⟩); (case aL => rw [List.length_map, HLF.out]; have := HNL.out; have := HI.out; omega); intro v12 w9 ho hb hg hat; have HO109 := Lib.hid ho; have HB9 := Lib.hid hb; have HO99 := Lib.hid (R_other HO98.out HO108.out (by intro q hq; rcases List.mem_cons.1 hq with rfl | hq; exact (by decide); cases hq) hg); clear ho hb hg hat))
      go_roundw
      case rel => exact ⟨i + 1, by simp, Lib.hid hi, HO99, by rw [HSM.out, List.map_append, List.map_cons, List.map_nil, HSO.out]; exact HO109, HB9⟩
      case measure => simp [intOf]; omega
    · have hie : i = n := by have := HI.out; omega
      have q1 : decide ((i : Int) < (n : Int)) = false := decide_eq_false (by omega)
      have hta : (cutP l m).take n = cutP l m := List.take_of_length_le (by rw [HNN.out]; exact Nat.le_refl _)
      have hfl := cutP_flat l m HM1.out
      have ho9 := HO9.out
      have ho10 := HO10.out
      rw [hie, hta] at ho9 ho10
      rw [hfl] at ho9
      obtain ⟨K, hK⟩ : ∃ K, 130 + (cutP l m).length = K := ⟨_, rfl⟩
      have hsum := sum_eq' (cutP l m) (fun x hx => (cutF_mem l HY.out m HM1.out (l.length + 1) 0 x hx).1) (by rw [hfl]; exact HX.out) (by rw [HNN.out]; exact HNL.out) K (by omega)
      obtain ⟨L, hL⟩ : ∃ L, (cutP l m).map sOf = L := ⟨_, rfl⟩
      rw [hL] at ho10 hsum
      obtain ⟨Aa, ca, rfl⟩ := Kd.R_slice ho9
      obtain ⟨Ab, cb, rfl⟩ := Kd.R_slice ho10
      have ho9' := (Kd.R_reads' ho9).2.2
      have ho10' := Kd.R_reads' ho10
      obtain ⟨M, hM⟩ : ∃ M, mOf l = M := ⟨_, rfl⟩
      rw [hfl, hM] at hsum
      obtain ⟨m1, m2, m3, m4, m5, m6⟩ := M
      dsimp only at hsum
      have HSU := Lib.hid hsum
      have HMM := Lib.hid hM
      have HCA := Lib.hid ho9'
      have HCB := Lib.hid ho10'
      obtain ⟨s0, hs0⟩ : ∃ s0, strOfNums l = s0 := ⟨_, rfl⟩
      have HS0 := Lib.hid hs0
      subst hie
      clear hta hfl ho9 ho10 ho9' ho10' hsum hM hs0 hK hL
      go_wp2_with (first | (go_at_call 24; (with_reducible refine (weld_Sum.calls K Ab cb L m1 m2 m3 m4 m5 m6 0 _ ?side1 HCB.out.2.2 HCB.out.2.1 HSU.out).mono ?_); (case side1 => exact Glob.Globs_below HG.out (below_step HB5.out HB.out)); rintro e w6 ⟨rfl, hb⟩; have HB66 := Lib.hid hb; have HB6 := Lib.hid (below_step (below_step HB5.out HB.out) hb); clear hb))
      have HK := Lib.hid (blk_new w6 (.cells #[.int .i64 m1, .int .i64 m2, .int .i64 m3, .int .i64 m4, .string m5, .string m6] 36))
      have HCA7 := Lib.hid (Kd.C_below HCA.out (below_step HB66.out ((Below.refl _ w6).alloc (Nat.le_refl _) (.cells #[.int .i64 m1, .int .i64 m2, .int .i64 m3, .int .i64 m4, .string m5, .string m6] 36))))
      have HCW7 := Lib.hid (Kd.C_below HR.out (below_step HB6.out ((Below.refl _ w6).alloc (Nat.le_refl _) (.cells #[.int .i64 m1, .int .i64 m2, .int .i64 m3, .int .i64 m4, .string m5, .string m6] 36))))
      have HB7 := Lib.hid (HB6.out.alloc HB6.out.size (.cells #[.int .i64 m1, .int .i64 m2, .int .i64 m3, .int .i64 m4, .string m5, .string m6] 36))
      generalize w6.alloc (.cells #[.int .i64 m1, .int .i64 m2, .int .i64 m3, .int .i64 m4, .string m5, .string m6] 36) = W at HK HCA7 HCW7 HB7 ⊢
      go_region_held3 (fun w' => w'.cell? ⟨w6.heap.size, 0, none⟩ = some (.int .i64 m1) ∧ w'.cell? ⟨w6.heap.size, 1, none⟩ = some (.int .i64 m2) ∧ w'.cell? ⟨w6.heap.size, 2, none⟩ = some (.int .i64 m3) ∧ w'.cell? ⟨w6.heap.size, 3, none⟩ = some (.int .i64 m4) ∧ w'.cell? ⟨w6.heap.size, 4, none⟩ = some (.string m5) ∧ w'.cell? ⟨w6.heap.size, 5, none⟩ = some (.string m6) ∧ Sem.run Tryd.prog (convert 26 9 (.slice Aa l.length ca)) w' = .ok (.string s0) w' ∧ Sem.run Tryd.prog (convert 26 9 (.slice A l.length c)) w' = .ok (.string s0) w') (first | exact cuts_keep HS0.out (Below.refl _ W).drew HK.out HCA7.out HCW7.out | exact cuts_keep HS0.out HB8.out HK.out HCA7.out HCW7.out) (first | (go_at_call 25; (with_reducible refine (refOf_at3 A _ c l _ rfl HY.out HX.out m1 m2 m3 m4 m5 m6 HMM.out ?side1 HC.out).mono ?_); (case side1 => exact Kd.C_below HCW7.out (Below.refl _ W).drew); rintro e w8 ⟨rfl, hb⟩; have HB8 := Lib.hid (below_step (Below.refl _ W).drew hb); clear hb))
      go_wp2_with fail
      go_ret
      exact ⟨rfl, below_step HB7.out HB8.out⟩
theorem law_LeafCuts.walk (_ : True) (a0 : Option Addr) (len0 cap0 : Nat) (z0 : List Int) (most : Int) (w : World) (hG : Glob.Globs w) (w0 : RowU8 w a0 len0 cap0 z0) (y0 : len0 * 1 ≤ 140737488351232) (_ : (Lit.int .i64 most).wf = true) :
    Calls Tryd.prog 8 #[.slice a0 len0 cap0, .int .i64 most] w fun e w' => e = .returned (.bool true) ∧ Below w.heap.size w w' := by
  obtain ⟨l, rfl, hr, hc, hy, hl⟩ := w0.open y0
  by_cases h1 : most < 1 ∨ 4096 < most
  · exact law_LeafCuts.bad a0 cap0 l hy most h1 w hG hr hc hl
  · by_cases h3 : l.length ≤ 268435456
    · obtain ⟨m, rfl⟩ := Int.eq_ofNat_of_zero_le (show 0 ≤ most by omega)
      exact law_LeafCuts.ok a0 cap0 l hy m (by omega) (by omega) h3 w hG hr hc hl
    · exact law_LeafCuts.long a0 cap0 l hy most (by omega) (by omega) w hG hr hc hl
end Go.Proofs.YteoonhidjldnfaaDoor.Pr

namespace Go.Proofs.YteoonhidjldnfaaDoorW.PrintWords
open Go.ChangeShapes Go.WideShapes
theorem sized_ints {H : Type} {enc : TypeId × Value → H} {P : Program} {W : World} {base : Nat} {spare : Nat → Bool} {held : Bool} {t e : TypeId} {k : IntKind} {a : Option Addr} {len cap : Nat} {d : DataW H} {ps : List MemPlace} {ts : List TypeId} {ds : List (DataW H)} {j : Nat}
    (hsz : (DataW.weightsEach P ts ds).all (· ≤ reachBytes) = true) (ht : ts[j]? = some t) (hd : ds[j]? = some d) (hu : P.underlying t = some (.slice e)) (he : P.underlying e = some (.int k)) (hc : P.cellsOf e = 1) {B : Nat} (hB : P.bytesOf e = B)
    (h : DataW.Trod enc P W base spare held t (.slice a len cap) d ps) : len * B ≤ 140737488351232 := by
  obtain ⟨fuel, hf⟩ := h
  rcases open_ints hu he hc hf with ⟨hcs, _⟩ | ⟨x, l, c, zs, hcs, _, hl, _, hz, hx, _, _⟩
  · simp [Value.cells] at hcs
    obtain ⟨rfl, rfl, rfl⟩ := hcs
    simp
  · simp [Value.cells] at hcs
    obtain ⟨rfl, rfl, rfl⟩ := hcs
    obtain ⟨hx, _⟩ := Prod.mk.inj hx
    subst hx
    have z := sized_slice hsz ht hd hu
    rw [hB] at z
    have hl2 : len ≤ zs.length := by
      rw [hz]
      split
      · exact hl
      · exact Nat.le_refl _
    have h1 : (lits (H := H) k (zs.take len)).length + (lits (H := H) k (zs.drop len)).length = zs.length := by
      simp [lits]
      omega
    rw [h1] at z
    exact Nat.le_trans (Nat.mul_le_mul_right _ hl2) z
end Go.Proofs.YteoonhidjldnfaaDoorW.PrintWords
