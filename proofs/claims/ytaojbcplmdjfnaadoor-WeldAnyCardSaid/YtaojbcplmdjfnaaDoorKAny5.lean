/- Part 5 of the lemmas on which the card weldAny_card stands (its sentence and conditions stand in the last text). Conditions: as each lemma says. -/
import Derived.Test.YtaojbcplmdjfnaaDoorKAny4
namespace Go.Proofs.YtaojbcplmdjfnaaDoor.Pr
open Go.RowKit Go.Proofs.YtaojbcplmdjfnaaDoorW.PrintWords Go.Proofs.YtaojbcplmdjfnaaDoorW.PrintLast Go.Proofs.YtaojbcplmdjfnaaDoorW.PrintMore
attribute [local go_sem] max2_int min2_int max_two min_two max_three min_three max_four min_four   -- for this text's walks alone
set_option linter.unusedVariables false
set_option linter.unusedSimpArgs false
attribute [local go_sem high] eqA24 eqA26
def galleyref05_Seam.f (k : Nat) (a0_0 : Int) (a0_1 : Int) (a0_2 : Int) (a0_3 : Int) (a0_4 : ByteArray) (a0_5 : ByteArray) (a1_0 : Int) (a1_1 : Int) (a1_2 : Int) (a1_3 : Int) (a1_4 : ByteArray) (a1_5 : ByteArray) : Option (Int × Int × Int × Int × Int) := (galleyref05_Join.f k a0_0 a0_1 a0_2 a0_3 a0_4 a0_5 a1_0 a1_1 a1_2 a1_3 a1_4 a1_5).bind fun bt336 => (if bt336.2.2.2.2.2.2 = 0 then ((galleyref05_seam.f k a0_0 a0_1 a0_2 a0_3 a0_4 a0_5 a1_0 a1_1 a1_2 a1_3 a1_4 a1_5).bind fun bt344 => (some (bt344.1, bt344.2.1, bt344.2.2.1, bt344.2.2.2, 0))) else (some (0, 0, 0, 0, bt336.2.2.2.2.2.2)))
set_option maxHeartbeats 8000000 in
set_option maxRecDepth 100000 in
theorem galleyref05_Seam.calls (k : Nat) (a0_0 : Int) (a0_1 : Int) (a0_2 : Int) (a0_3 : Int) (a0_4 : ByteArray) (a0_5 : ByteArray) (a1_0 : Int) (a1_1 : Int) (a1_2 : Int) (a1_3 : Int) (a1_4 : ByteArray) (a1_5 : ByteArray) (r1 : Int) (r2 : Int) (r3 : Int) (r4 : Int) (r5 : Int) (w : World) (h : galleyref05_Seam.f k a0_0 a0_1 a0_2 a0_3 a0_4 a0_5 a1_0 a1_1 a1_2 a1_3 a1_4 a1_5 = some (r1, r2, r3, r4, r5)) :
  Calls Tryd.prog 20 #[.agg #[.int .i64 a0_0, .int .i64 a0_1, .int .i64 a0_2, .int .i64 a0_3, .string a0_4, .string a0_5], .agg #[.int .i64 a1_0, .int .i64 a1_1, .int .i64 a1_2, .int .i64 a1_3, .string a1_4, .string a1_5]] w fun e w' => e = .returned (.tuple #[.agg #[.int .i64 r1, .int .i64 r2, .int .i64 r3, .int .i64 r4], .int .i64 r5]) ∧ Below w.heap.size w w' := by
 have hu26 := Tryd.underlying26
 have hu24 := Tryd.underlying24
 have HB := Aside0.mk (Below.refl w.heap.size w)
 have H : ((galleyref05_Join.f k a0_0 a0_1 a0_2 a0_3 a0_4 a0_5 a1_0 a1_1 a1_2 a1_3 a1_4 a1_5).bind fun bt336 => (if bt336.2.2.2.2.2.2 = 0 then ((galleyref05_seam.f k a0_0 a0_1 a0_2 a0_3 a0_4 a0_5 a1_0 a1_1 a1_2 a1_3 a1_4 a1_5).bind fun bt344 => (some (bt344.1, bt344.2.1, bt344.2.2.1, bt344.2.2.2, 0))) else (some (0, 0, 0, 0, bt336.2.2.2.2.2.2)))) = some (r1, r2, r3, r4, r5) := h
 clear h
 replace H := Option.bind_eq_some_iff.mp H
 obtain ⟨⟨t336, t337, t338, t339, t340, t341, t342⟩, A30, H⟩ := H
 replace H : (if t342 = 0 then ((galleyref05_seam.f k a0_0 a0_1 a0_2 a0_3 a0_4 a0_5 a1_0 a1_1 a1_2 a1_3 a1_4 a1_5).bind fun bt344 => (some (bt344.1, bt344.2.1, bt344.2.2.1, bt344.2.2.2, 0))) else (some (0, 0, 0, 0, t342))) = some (r1, r2, r3, r4, r5) := H
 have A3 := Aside0.mk A30; clear A30
 by_cases c4 : t342 = 0
 ·rw [if_pos c4] at H
  have c4b0 : (t342 == 0) = true := beq_iff_eq.mpr c4
  have c4b1 : (t342 != 0) = false := bne_eq_false_iff_eq.mpr c4
  clear c4
  replace H := Option.bind_eq_some_iff.mp H
  obtain ⟨⟨t344, t345, t346, t347⟩, A50, H⟩ := H
  replace H : (some (t344, t345, t346, t347, 0)) = some (r1, r2, r3, r4, r5) := H
  have A5 := Aside0.mk A50; clear A50
  simp only [Option.some.injEq, Prod.mk.injEq] at H
  obtain ⟨rfl, rfl, rfl, rfl, rfl⟩ := H
  go_enter Tryd.func20, Tryd.ntmps20
  go_wp2_with (first | ((with_reducible refine gate_dst (N := 2) rfl ?_); refine box_event ?hg (N := 2) ?hd (cs := #[.int .i64 a0_0, .int .i64 a0_1, .int .i64 a0_2, .int .i64 a0_3, .string a0_4, .string a0_5]) (t := 26) ?hr ?_; (case hd => rfl); (case hg => rfl); (case hr => first | (go_simp; done) | (go_simp; rfl)); intro gb333 hg w6 hbox hb; have n0_ := Aside0.mk (below_step (bl HB.out) hb); have n1_ := Aside0.mk (hbox); have n2_ := Aside0.mk ((by rw [hg]; exact (below_size (bl HB.out)) : w.heap.size ≤ gb333)); have n3_ := Aside0.mk ((by rw [hg]; exact (below_size (bl HB.out)) : w.heap.size ≤ gb333)); clear HB; have HB := n0_; have BK333 := n1_; have GW333 := n2_; have GE333 := n3_; clear n0_ n1_ n2_ n3_; clear hb hbox hg) | ((with_reducible refine gate_dst (N := 3) rfl ?_); refine box_event ?hg (N := 3) ?hd (cs := #[.int .i64 a1_0, .int .i64 a1_1, .int .i64 a1_2, .int .i64 a1_3, .string a1_4, .string a1_5]) (t := 26) ?hr ?_; (case hd => rfl); (case hg => rfl); (case hr => first | (go_simp; done) | (go_simp; rfl)); intro gb334 hg w7 hbox hb; have n0_ := Aside0.mk (blk_below (pl BK333.out) hb); have n1_ := Aside0.mk (below_step (by repeat (first | (with_reducible first | exact HB.out | apply below_alloc | apply pw_below_drewN | apply below_drew1 | refine below_set ?_ GE333.out) | exact HB.out)) hb); have n2_ := Aside0.mk (hbox); have n3_ := Aside0.mk ((by rw [hg]; exact (below_size (by repeat (first | (with_reducible first | exact HB.out | apply below_alloc | apply pw_below_drewN | apply below_drew1 | refine below_set ?_ GE333.out) | exact HB.out))) : w.heap.size ≤ gb334)); have n4_ := Aside0.mk ((by rw [hg]; exact (below_size (by repeat (first | (with_reducible first | exact HB.out | apply below_alloc | apply pw_below_drewN | apply below_drew1 | refine below_set ?_ GE333.out) | exact HB.out))) : w.heap.size ≤ gb334)); have n5_ := Aside0.mk ((by rw [hg]; exact Nat.ne_of_lt (blk_lt (pl BK333.out)) : gb333 ≠ gb334)); have n6_ := Aside0.mk ((by rw [hg]; exact Nat.ne_of_gt (blk_lt (pl BK333.out)) : gb334 ≠ gb333)); clear BK333; clear HB; have BK333 := n0_; have HB := n1_; have BK334 := n2_; have GW334 := n3_; have GE334 := n4_; have NB333_334 := n5_; have NB334_333 := n6_; clear n0_ n1_ n2_ n3_ n4_ n5_ n6_; clear hb hbox hg) | ((with_reducible refine gate_dst (N := 4) rfl ?_); refine box_event ?hg (N := 4) ?hd (cs := #[.int .i64 0, .int .i64 0, .int .i64 0, .int .i64 0]) (t := 24) ?hr ?_; (case hd => rfl); (case hg => rfl); (case hr => first | (go_simp; done) | (go_simp; rfl)); intro gb335 hg w8 hbox hb; have n0_ := Aside0.mk (blk_below (pl BK333.out) hb); have n1_ := Aside0.mk (blk_below (pl BK334.out) hb); have n2_ := Aside0.mk (below_step (by repeat (first | (with_reducible first | exact HB.out | apply below_alloc | apply pw_below_drewN | apply below_drew1 | refine below_set ?_ GE333.out | refine below_set ?_ GE334.out) | exact HB.out)) hb); have n3_ := Aside0.mk (hbox); have n4_ := Aside0.mk ((by rw [hg]; exact (below_size (by repeat (first | (with_reducible first | exact HB.out | apply below_alloc | apply pw_below_drewN | apply below_drew1 | refine below_set ?_ GE333.out | refine below_set ?_ GE334.out) | exact HB.out))) : w.heap.size ≤ gb335)); have n5_ := Aside0.mk ((by rw [hg]; exact (below_size (by repeat (first | (with_reducible first | exact HB.out | apply below_alloc | apply pw_below_drewN | apply below_drew1 | refine below_set ?_ GE333.out | refine below_set ?_ GE334.out) | exact HB.out))) : w.heap.size ≤ gb335)); have n6_ := Aside0.mk ((by rw [hg]; exact Nat.ne_of_lt (blk_lt (pl BK333.out)) : gb333 ≠ gb335)); have n7_ := Aside0.mk ((by rw [hg]; exact Nat.ne_of_gt (blk_lt (pl BK333.out)) : gb335 ≠ gb333)); have n8_ := Aside0.mk ((by rw [hg]; exact Nat.ne_of_lt (blk_lt (pl BK334.out)) : gb334 ≠ gb335)); have n9_ := Aside0.mk ((by rw [hg]; exact Nat.ne_of_gt (blk_lt (pl BK334.out)) : gb335 ≠ gb334)); clear BK333; clear BK334; clear HB; have BK333 := n0_; have BK334 := n1_; have HB := n2_; have BK335 := n3_; have GW335 := n4_; have GE335 := n5_; have NB333_335 := n6_; have NB335_333 := n7_; have NB334_335 := n8_; have NB335_334 := n9_; clear n0_ n1_ n2_ n3_ n4_ n5_ n6_ n7_ n8_ n9_; clear hb hbox hg; have hnb9 := NB333_334.out; have hnc9 := NB334_333.out; have hnb10 := NB333_335.out; have hnc10 := NB335_333.out; obtain ⟨hcz11_0, hcz11_1, hcz11_2, hcz11_3, hcz11_4, hcz11_5⟩ := c6 BK333.out; obtain ⟨hfz11_0, hfz11_1, hfz11_2, hfz11_3, hfz11_4, hfz11_5⟩ := f6 BK333.out; have hnb12 := NB334_335.out; have hnc12 := NB335_334.out; obtain ⟨hcz13_0, hcz13_1, hcz13_2, hcz13_3, hcz13_4, hcz13_5⟩ := c6 BK334.out; obtain ⟨hfz13_0, hfz13_1, hfz13_2, hfz13_3, hfz13_4, hfz13_5⟩ := f6 BK334.out) | ((with_reducible refine gate_callee (f := 18) rfl ?_); refine goesL_ (some 11) rfl rfl Tryd.func18 (by kernel_rfl) rfl #[.agg #[.int .i64 a0_0, .int .i64 a0_1, .int .i64 a0_2, .int .i64 a0_3, .string a0_4, .string a0_5], .agg #[.int .i64 a1_0, .int .i64 a1_1, .int .i64 a1_2, .int .i64 a1_3, .string a1_4, .string a1_5]] rfl (by (try simp only [List.map_toArray, List.map_cons, List.map_nil]); first | done | rfl | (simp only [List.length_drop, List.length_take]; rfl)) ?_; (with_reducible refine (galleyref05_Join.calls k a0_0 a0_1 a0_2 a0_3 a0_4 a0_5 a1_0 a1_1 a1_2 a1_3 a1_4 a1_5 t336 t337 t338 t339 t340 t341 t342 _ A3.out).mono ?_); rintro e w14 ⟨rfl, hb⟩; refine ⟨_, rfl, ?_⟩; have n0_ := Aside0.mk (blk_below (pl BK333.out) hb); have n1_ := Aside0.mk (blk_below (pl BK334.out) hb); have n2_ := Aside0.mk (blk_below (pl BK335.out) hb); have n3_ := Aside0.mk (below_step (by repeat (first | (with_reducible first | exact HB.out | apply below_alloc | apply pw_below_drewN | apply below_drew1 | refine below_set ?_ GE333.out | refine below_set ?_ GE334.out | refine below_set ?_ GE335.out) | exact HB.out)) hb); clear BK333; clear BK334; clear BK335; clear HB; have BK333 := n0_; have BK334 := n1_; have BK335 := n2_; have HB := n3_; clear n0_ n1_ n2_ n3_; (try clear hb); (try clear hb2); (try clear hk); (try clear hi)) | ((with_reducible refine gate_dst (N := 6) rfl ?_); refine box_event ?hg (N := 6) ?hd (cs := #[.int .i64 0, .int .i64 0, .int .i64 0, .int .i64 0, .string (⟨#[]⟩ : ByteArray), .string (⟨#[]⟩ : ByteArray)]) (t := 26) ?hr ?_; (case hd => rfl); (case hg => rfl); (case hr => first | (go_simp; done) | (go_simp; rfl)); intro gb343 hg w15 hbox hb; have n0_ := Aside0.mk (blk_below (pl BK333.out) hb); have n1_ := Aside0.mk (blk_below (pl BK334.out) hb); have n2_ := Aside0.mk (blk_below (pl BK335.out) hb); have n3_ := Aside0.mk (below_step (by repeat (first | (with_reducible first | exact HB.out | apply below_alloc | apply pw_below_drewN | apply below_drew1 | refine below_set ?_ GE333.out | refine below_set ?_ GE334.out | refine below_set ?_ GE335.out) | exact HB.out)) hb); have n4_ := Aside0.mk (hbox); have n5_ := Aside0.mk ((by rw [hg]; exact (below_size (by repeat (first | (with_reducible first | exact HB.out | apply below_alloc | apply pw_below_drewN | apply below_drew1 | refine below_set ?_ GE333.out | refine below_set ?_ GE334.out | refine below_set ?_ GE335.out) | exact HB.out))) : w.heap.size ≤ gb343)); have n6_ := Aside0.mk ((by rw [hg]; exact (below_size (by repeat (first | (with_reducible first | exact HB.out | apply below_alloc | apply pw_below_drewN | apply below_drew1 | refine below_set ?_ GE333.out | refine below_set ?_ GE334.out | refine below_set ?_ GE335.out) | exact HB.out))) : w.heap.size ≤ gb343)); have n7_ := Aside0.mk ((by rw [hg]; exact Nat.ne_of_lt (blk_lt (pl BK333.out)) : gb333 ≠ gb343)); have n8_ := Aside0.mk ((by rw [hg]; exact Nat.ne_of_gt (blk_lt (pl BK333.out)) : gb343 ≠ gb333)); have n9_ := Aside0.mk ((by rw [hg]; exact Nat.ne_of_lt (blk_lt (pl BK334.out)) : gb334 ≠ gb343)); have n10_ := Aside0.mk ((by rw [hg]; exact Nat.ne_of_gt (blk_lt (pl BK334.out)) : gb343 ≠ gb334)); have n11_ := Aside0.mk ((by rw [hg]; exact Nat.ne_of_lt (blk_lt (pl BK335.out)) : gb335 ≠ gb343)); have n12_ := Aside0.mk ((by rw [hg]; exact Nat.ne_of_gt (blk_lt (pl BK335.out)) : gb343 ≠ gb335)); clear BK333; clear BK334; clear BK335; clear HB; have BK333 := n0_; have BK334 := n1_; have BK335 := n2_; have HB := n3_; have BK343 := n4_; have GW343 := n5_; have GE343 := n6_; have NB333_343 := n7_; have NB343_333 := n8_; have NB334_343 := n9_; have NB343_334 := n10_; have NB335_343 := n11_; have NB343_335 := n12_; clear n0_ n1_ n2_ n3_ n4_ n5_ n6_ n7_ n8_ n9_ n10_ n11_ n12_; clear hb hbox hg; have hnb16 := NB343_333.out; have hnc16 := NB333_343.out; have hnb17 := NB343_334.out; have hnc17 := NB334_343.out; have hnb18 := NB343_335.out; have hnc18 := NB335_343.out; obtain ⟨hcz19_0, hcz19_1, hcz19_2, hcz19_3, hcz19_4, hcz19_5⟩ := c6 BK343.out; obtain ⟨hfz19_0, hfz19_1, hfz19_2, hfz19_3, hfz19_4, hfz19_5⟩ := f6 BK343.out; obtain ⟨hcz20_0, hcz20_1, hcz20_2, hcz20_3, hcz20_4, hcz20_5⟩ := c6 BK333.out; obtain ⟨hfz20_0, hfz20_1, hfz20_2, hfz20_3, hfz20_4, hfz20_5⟩ := f6 BK333.out; obtain ⟨hcz21_0, hcz21_1, hcz21_2, hcz21_3, hcz21_4, hcz21_5⟩ := c6 BK334.out; obtain ⟨hfz21_0, hfz21_1, hfz21_2, hfz21_3, hfz21_4, hfz21_5⟩ := f6 BK334.out) | ((with_reducible refine gate_callee (f := 33) rfl ?_); refine goesL_ (some 20) rfl rfl Tryd.func33 (by kernel_rfl) rfl #[.agg #[.int .i64 a0_0, .int .i64 a0_1, .int .i64 a0_2, .int .i64 a0_3, .string a0_4, .string a0_5], .agg #[.int .i64 a1_0, .int .i64 a1_1, .int .i64 a1_2, .int .i64 a1_3, .string a1_4, .string a1_5]] rfl (by (try simp only [List.map_toArray, List.map_cons, List.map_nil]); first | done | rfl | (simp only [List.length_drop, List.length_take]; rfl)) ?_; (with_reducible refine (galleyref05_seam.calls k a0_0 a0_1 a0_2 a0_3 a0_4 a0_5 a1_0 a1_1 a1_2 a1_3 a1_4 a1_5 t344 t345 t346 t347 _ A5.out).mono ?_); rintro e w22 ⟨rfl, hb⟩; refine ⟨_, rfl, ?_⟩; have n0_ := Aside0.mk (blk_below (g := gb333) (o := .cells #[.int .i64 a0_0, .int .i64 a0_1, .int .i64 a0_2, .int .i64 a0_3, .string a0_4, .string a0_5] 26 (0, 0)) (by refine pl ?_; refine blk_far ?_ NB333_343.out _; refine pl ?_; refine blk_far ?_ NB333_343.out _; refine pl ?_; refine blk_far ?_ NB333_343.out _; refine pl ?_; refine blk_far ?_ NB333_343.out _; refine pl ?_; refine blk_far ?_ NB333_343.out _; refine pl ?_; refine blk_far ?_ NB333_343.out _; refine pl ?_; exact BK333.out) hb); have n1_ := Aside0.mk (blk_below (g := gb334) (o := .cells #[.int .i64 a1_0, .int .i64 a1_1, .int .i64 a1_2, .int .i64 a1_3, .string a1_4, .string a1_5] 26 (0, 0)) (by refine pl ?_; refine blk_far ?_ NB334_343.out _; refine pl ?_; refine blk_far ?_ NB334_343.out _; refine pl ?_; refine blk_far ?_ NB334_343.out _; refine pl ?_; refine blk_far ?_ NB334_343.out _; refine pl ?_; refine blk_far ?_ NB334_343.out _; refine pl ?_; refine blk_far ?_ NB334_343.out _; refine pl ?_; exact BK334.out) hb); have n2_ := Aside0.mk (blk_below (g := gb335) (o := .cells #[.int .i64 0, .int .i64 0, .int .i64 0, .int .i64 0] 24 (0, 0)) (by refine pl ?_; refine blk_far ?_ NB335_343.out _; refine pl ?_; refine blk_far ?_ NB335_343.out _; refine pl ?_; refine blk_far ?_ NB335_343.out _; refine pl ?_; refine blk_far ?_ NB335_343.out _; refine pl ?_; refine blk_far ?_ NB335_343.out _; refine pl ?_; refine blk_far ?_ NB335_343.out _; refine pl ?_; exact BK335.out) hb); have n3_ := Aside0.mk (blk_below (g := gb343) (o := .cells #[.int .i64 t336, .int .i64 t337, .int .i64 t338, .int .i64 t339, .string t340, .string t341] 26 (0, 0)) (by refine pl ?_; refine blk_put (cs := #[.int .i64 t336, .int .i64 t337, .int .i64 t338, .int .i64 t339, .string t340, .string (⟨#[]⟩ : ByteArray)]) ?_ 5 _ rfl; refine pl ?_; refine blk_put (cs := #[.int .i64 t336, .int .i64 t337, .int .i64 t338, .int .i64 t339, .string (⟨#[]⟩ : ByteArray), .string (⟨#[]⟩ : ByteArray)]) ?_ 4 _ rfl; refine pl ?_; refine blk_put (cs := #[.int .i64 t336, .int .i64 t337, .int .i64 t338, .int .i64 0, .string (⟨#[]⟩ : ByteArray), .string (⟨#[]⟩ : ByteArray)]) ?_ 3 _ rfl; refine pl ?_; refine blk_put (cs := #[.int .i64 t336, .int .i64 t337, .int .i64 0, .int .i64 0, .string (⟨#[]⟩ : ByteArray), .string (⟨#[]⟩ : ByteArray)]) ?_ 2 _ rfl; refine pl ?_; refine blk_put (cs := #[.int .i64 t336, .int .i64 0, .int .i64 0, .int .i64 0, .string (⟨#[]⟩ : ByteArray), .string (⟨#[]⟩ : ByteArray)]) ?_ 1 _ rfl; refine pl ?_; refine blk_put (cs := #[.int .i64 0, .int .i64 0, .int .i64 0, .int .i64 0, .string (⟨#[]⟩ : ByteArray), .string (⟨#[]⟩ : ByteArray)]) ?_ 0 _ rfl; refine pl ?_; exact BK343.out) hb); have n4_ := Aside0.mk (below_step (by repeat (first | (with_reducible first | exact HB.out | apply below_alloc | apply pw_below_drewN | apply below_drew1 | refine below_set ?_ GE333.out | refine below_set ?_ GE334.out | refine below_set ?_ GE335.out | refine below_set ?_ GE343.out) | exact HB.out)) hb); clear BK333; clear BK334; clear BK335; clear BK343; clear HB; have BK333 := n0_; have BK334 := n1_; have BK335 := n2_; have BK343 := n3_; have HB := n4_; clear n0_ n1_ n2_ n3_ n4_; (try clear hb); (try clear hb2); (try clear hk); (try clear hi); obtain ⟨hcz23_0, hcz23_1, hcz23_2, hcz23_3⟩ := Go.Proofs.YtaojbcplmdjfnaaDoorW.PrintWords.c4 BK335.out; obtain ⟨hfz23_0, hfz23_1, hfz23_2, hfz23_3⟩ := f4 BK335.out))
  refine bodyPost_ret (results_ct rfl _ _ gb335 24 #[.int .i64 t344, .int .i64 t345, .int .i64 t346, .int .i64 t347] (0, 0) _ rfl (by refine pl ?_; refine blk_put (cs := #[.int .i64 t344, .int .i64 t345, .int .i64 t346, .int .i64 0]) ?_ 3 _ rfl; refine pl ?_; refine blk_put (cs := #[.int .i64 t344, .int .i64 t345, .int .i64 0, .int .i64 0]) ?_ 2 _ rfl; refine pl ?_; refine blk_put (cs := #[.int .i64 t344, .int .i64 0, .int .i64 0, .int .i64 0]) ?_ 1 _ rfl; refine pl ?_; refine blk_put (cs := #[.int .i64 0, .int .i64 0, .int .i64 0, .int .i64 0]) ?_ 0 _ rfl; refine pl ?_; exact BK335.out) Tryd.underlying24 rfl (by kernel_rfl)) rfl ?_
  exact ⟨by first | rfl | (simp [errW_none, errW_some] <;> rfl) | (simp [*, errW_none, errW_some] <;> rfl), by repeat (first | (with_reducible first | exact HB.out | apply below_alloc | apply pw_below_drewN | apply below_drew1 | refine below_set ?_ GE333.out | refine below_set ?_ GE334.out | refine below_set ?_ GE335.out | refine below_set ?_ GE343.out) | exact HB.out)⟩
 ·rw [if_neg c4] at H
  have c4b0 : (t342 == 0) = false := beq_eq_false_iff_ne.mpr c4
  have c4b1 : (t342 != 0) = true := bne_iff_ne.mpr c4
  simp only [Option.some.injEq, Prod.mk.injEq] at H
  obtain ⟨rfl, rfl, rfl, rfl, rfl⟩ := H
  go_enter Tryd.func20, Tryd.ntmps20
  go_wp2_with (first | ((with_reducible refine gate_dst (N := 2) rfl ?_); refine box_event ?hg (N := 2) ?hd (cs := #[.int .i64 a0_0, .int .i64 a0_1, .int .i64 a0_2, .int .i64 a0_3, .string a0_4, .string a0_5]) (t := 26) ?hr ?_; (case hd => rfl); (case hg => rfl); (case hr => first | (go_simp; done) | (go_simp; rfl)); intro gb333 hg w24 hbox hb; have n0_ := Aside0.mk (below_step (bl HB.out) hb); have n1_ := Aside0.mk (hbox); have n2_ := Aside0.mk ((by rw [hg]; exact (below_size (bl HB.out)) : w.heap.size ≤ gb333)); have n3_ := Aside0.mk ((by rw [hg]; exact (below_size (bl HB.out)) : w.heap.size ≤ gb333)); clear HB; have HB := n0_; have BK333 := n1_; have GW333 := n2_; have GE333 := n3_; clear n0_ n1_ n2_ n3_; clear hb hbox hg) | ((with_reducible refine gate_dst (N := 3) rfl ?_); refine box_event ?hg (N := 3) ?hd (cs := #[.int .i64 a1_0, .int .i64 a1_1, .int .i64 a1_2, .int .i64 a1_3, .string a1_4, .string a1_5]) (t := 26) ?hr ?_; (case hd => rfl); (case hg => rfl); (case hr => first | (go_simp; done) | (go_simp; rfl)); intro gb334 hg w25 hbox hb; have n0_ := Aside0.mk (blk_below (pl BK333.out) hb); have n1_ := Aside0.mk (below_step (by repeat (first | (with_reducible first | exact HB.out | apply below_alloc | apply pw_below_drewN | apply below_drew1 | refine below_set ?_ GE333.out) | exact HB.out)) hb); have n2_ := Aside0.mk (hbox); have n3_ := Aside0.mk ((by rw [hg]; exact (below_size (by repeat (first | (with_reducible first | exact HB.out | apply below_alloc | apply pw_below_drewN | apply below_drew1 | refine below_set ?_ GE333.out) | exact HB.out))) : w.heap.size ≤ gb334)); have n4_ := Aside0.mk ((by rw [hg]; exact (below_size (by repeat (first | (with_reducible first | exact HB.out | apply below_alloc | apply pw_below_drewN | apply below_drew1 | refine below_set ?_ GE333.out) | exact HB.out))) : w.heap.size ≤ gb334)); have n5_ := Aside0.mk ((by rw [hg]; exact Nat.ne_of_lt (blk_lt (pl BK333.out)) : gb333 ≠ gb334)); have n6_ := Aside0.mk ((by rw [hg]; exact Nat.ne_of_gt (blk_lt (pl BK333.out)) : gb334 ≠ gb333)); clear BK333; clear HB; have BK333 := n0_; have HB := n1_; have BK334 := n2_; have GW334 := n3_; have GE334 := n4_; have NB333_334 := n5_; have NB334_333 := n6_; clear n0_ n1_ n2_ n3_ n4_ n5_ n6_; clear hb hbox hg) | ((with_reducible refine gate_dst (N := 4) rfl ?_); refine box_event ?hg (N := 4) ?hd (cs := #[.int .i64 0, .int .i64 0, .int .i64 0, .int .i64 0]) (t := 24) ?hr ?_; (case hd => rfl); (case hg => rfl); (case hr => first | (go_simp; done) | (go_simp; rfl)); intro gb335 hg w26 hbox hb; have n0_ := Aside0.mk (blk_below (pl BK333.out) hb); have n1_ := Aside0.mk (blk_below (pl BK334.out) hb); have n2_ := Aside0.mk (below_step (by repeat (first | (with_reducible first | exact HB.out | apply below_alloc | apply pw_below_drewN | apply below_drew1 | refine below_set ?_ GE333.out | refine below_set ?_ GE334.out) | exact HB.out)) hb); have n3_ := Aside0.mk (hbox); have n4_ := Aside0.mk ((by rw [hg]; exact (below_size (by repeat (first | (with_reducible first | exact HB.out | apply below_alloc | apply pw_below_drewN | apply below_drew1 | refine below_set ?_ GE333.out | refine below_set ?_ GE334.out) | exact HB.out))) : w.heap.size ≤ gb335)); have n5_ := Aside0.mk ((by rw [hg]; exact (below_size (by repeat (first | (with_reducible first | exact HB.out | apply below_alloc | apply pw_below_drewN | apply below_drew1 | refine below_set ?_ GE333.out | refine below_set ?_ GE334.out) | exact HB.out))) : w.heap.size ≤ gb335)); have n6_ := Aside0.mk ((by rw [hg]; exact Nat.ne_of_lt (blk_lt (pl BK333.out)) : gb333 ≠ gb335)); have n7_ := Aside0.mk ((by rw [hg]; exact Nat.ne_of_gt (blk_lt (pl BK333.out)) : gb335 ≠ gb333)); have n8_ := Aside0.mk ((by rw [hg]; exact Nat.ne_of_lt (blk_lt (pl BK334.out)) : gb334 ≠ gb335)); have n9_ := Aside0.mk ((by rw [hg]; exact Nat.ne_of_gt (blk_lt (pl BK334.out)) : gb335 ≠ gb334)); clear BK333; clear BK334; clear HB; have BK333 := n0_; have BK334 := n1_; have HB := n2_; have BK335 := n3_; have GW335 := n4_; have GE335 := n5_; have NB333_335 := n6_; have NB335_333 := n7_; have NB334_335 := n8_; have NB335_334 := n9_; clear n0_ n1_ n2_ n3_ n4_ n5_ n6_ n7_ n8_ n9_; clear hb hbox hg; have hnb27 := NB333_334.out; have hnc27 := NB334_333.out; have hnb28 := NB333_335.out; have hnc28 := NB335_333.out; obtain ⟨hcz29_0, hcz29_1, hcz29_2, hcz29_3, hcz29_4, hcz29_5⟩ := c6 BK333.out; obtain ⟨hfz29_0, hfz29_1, hfz29_2, hfz29_3, hfz29_4, hfz29_5⟩ := f6 BK333.out; have hnb30 := NB334_335.out; have hnc30 := NB335_334.out; obtain ⟨hcz31_0, hcz31_1, hcz31_2, hcz31_3, hcz31_4, hcz31_5⟩ := c6 BK334.out; obtain ⟨hfz31_0, hfz31_1, hfz31_2, hfz31_3, hfz31_4, hfz31_5⟩ := f6 BK334.out) | ((with_reducible refine gate_callee (f := 18) rfl ?_); refine goesL_ (some 11) rfl rfl Tryd.func18 (by kernel_rfl) rfl #[.agg #[.int .i64 a0_0, .int .i64 a0_1, .int .i64 a0_2, .int .i64 a0_3, .string a0_4, .string a0_5], .agg #[.int .i64 a1_0, .int .i64 a1_1, .int .i64 a1_2, .int .i64 a1_3, .string a1_4, .string a1_5]] rfl (by (try simp only [List.map_toArray, List.map_cons, List.map_nil]); first | done | rfl | (simp only [List.length_drop, List.length_take]; rfl)) ?_; (with_reducible refine (galleyref05_Join.calls k a0_0 a0_1 a0_2 a0_3 a0_4 a0_5 a1_0 a1_1 a1_2 a1_3 a1_4 a1_5 t336 t337 t338 t339 t340 t341 t342 _ A3.out).mono ?_); rintro e w32 ⟨rfl, hb⟩; refine ⟨_, rfl, ?_⟩; have n0_ := Aside0.mk (blk_below (pl BK333.out) hb); have n1_ := Aside0.mk (blk_below (pl BK334.out) hb); have n2_ := Aside0.mk (blk_below (pl BK335.out) hb); have n3_ := Aside0.mk (below_step (by repeat (first | (with_reducible first | exact HB.out | apply below_alloc | apply pw_below_drewN | apply below_drew1 | refine below_set ?_ GE333.out | refine below_set ?_ GE334.out | refine below_set ?_ GE335.out) | exact HB.out)) hb); clear BK333; clear BK334; clear BK335; clear HB; have BK333 := n0_; have BK334 := n1_; have BK335 := n2_; have HB := n3_; clear n0_ n1_ n2_ n3_; (try clear hb); (try clear hb2); (try clear hk); (try clear hi)) | ((with_reducible refine gate_dst (N := 6) rfl ?_); refine box_event ?hg (N := 6) ?hd (cs := #[.int .i64 0, .int .i64 0, .int .i64 0, .int .i64 0, .string (⟨#[]⟩ : ByteArray), .string (⟨#[]⟩ : ByteArray)]) (t := 26) ?hr ?_; (case hd => rfl); (case hg => rfl); (case hr => first | (go_simp; done) | (go_simp; rfl)); intro gb343 hg w33 hbox hb; have n0_ := Aside0.mk (blk_below (pl BK333.out) hb); have n1_ := Aside0.mk (blk_below (pl BK334.out) hb); have n2_ := Aside0.mk (blk_below (pl BK335.out) hb); have n3_ := Aside0.mk (below_step (by repeat (first | (with_reducible first | exact HB.out | apply below_alloc | apply pw_below_drewN | apply below_drew1 | refine below_set ?_ GE333.out | refine below_set ?_ GE334.out | refine below_set ?_ GE335.out) | exact HB.out)) hb); have n4_ := Aside0.mk (hbox); have n5_ := Aside0.mk ((by rw [hg]; exact (below_size (by repeat (first | (with_reducible first | exact HB.out | apply below_alloc | apply pw_below_drewN | apply below_drew1 | refine below_set ?_ GE333.out | refine below_set ?_ GE334.out | refine below_set ?_ GE335.out) | exact HB.out))) : w.heap.size ≤ gb343)); have n6_ := Aside0.mk ((by rw [hg]; exact (below_size (by repeat (first | (with_reducible first | exact HB.out | apply below_alloc | apply pw_below_drewN | apply below_drew1 | refine below_set ?_ GE333.out | refine below_set ?_ GE334.out | refine below_set ?_ GE335.out) | exact HB.out))) : w.heap.size ≤ gb343)); have n7_ := Aside0.mk ((by rw [hg]; exact Nat.ne_of_lt (blk_lt (pl BK333.out)) : gb333 ≠ gb343)); have n8_ := Aside0.mk ((by rw [hg]; exact Nat.ne_of_gt (blk_lt (pl BK333.out)) : gb343 ≠ gb333)); have n9_ := Aside0.mk ((by rw [hg]; exact Nat.ne_of_lt (blk_lt (pl BK334.out)) : gb334 ≠ gb343)); have n10_ := Aside0.mk ((by rw [hg]; exact Nat.ne_of_gt (blk_lt (pl BK334.out)) : gb343 ≠ gb334)); have n11_ := Aside0.mk ((by rw [hg]; exact Nat.ne_of_lt (blk_lt (pl BK335.out)) : gb335 ≠ gb343)); have n12_ := Aside0.mk ((by rw [hg]; exact Nat.ne_of_gt (blk_lt (pl BK335.out)) : gb343 ≠ gb335)); clear BK333; clear BK334; clear BK335; clear HB; have BK333 := n0_; have BK334 := n1_; have BK335 := n2_; have HB := n3_; have BK343 := n4_; have GW343 := n5_; have GE343 := n6_; have NB333_343 := n7_; have NB343_333 := n8_; have NB334_343 := n9_; have NB343_334 := n10_; have NB335_343 := n11_; have NB343_335 := n12_; clear n0_ n1_ n2_ n3_ n4_ n5_ n6_ n7_ n8_ n9_ n10_ n11_ n12_; clear hb hbox hg; have hnb34 := NB343_333.out; have hnc34 := NB333_343.out; have hnb35 := NB343_334.out; have hnc35 := NB334_343.out; have hnb36 := NB343_335.out; have hnc36 := NB335_343.out; obtain ⟨hcz37_0, hcz37_1, hcz37_2, hcz37_3, hcz37_4, hcz37_5⟩ := c6 BK343.out; obtain ⟨hfz37_0, hfz37_1, hfz37_2, hfz37_3, hfz37_4, hfz37_5⟩ := f6 BK343.out; obtain ⟨hcz38_0, hcz38_1, hcz38_2, hcz38_3⟩ := Go.Proofs.YtaojbcplmdjfnaaDoorW.PrintWords.c4 BK335.out; obtain ⟨hfz38_0, hfz38_1, hfz38_2, hfz38_3⟩ := f4 BK335.out))
  refine bodyPost_ret (results_ct rfl _ _ gb335 24 #[.int .i64 0, .int .i64 0, .int .i64 0, .int .i64 0] (0, 0) _ rfl (by refine pl ?_; refine blk_put (cs := #[.int .i64 0, .int .i64 0, .int .i64 0, .int .i64 0]) ?_ 3 _ rfl; refine pl ?_; refine blk_put (cs := #[.int .i64 0, .int .i64 0, .int .i64 0, .int .i64 0]) ?_ 2 _ rfl; refine pl ?_; refine blk_put (cs := #[.int .i64 0, .int .i64 0, .int .i64 0, .int .i64 0]) ?_ 1 _ rfl; refine pl ?_; refine blk_put (cs := #[.int .i64 0, .int .i64 0, .int .i64 0, .int .i64 0]) ?_ 0 _ rfl; refine pl ?_; refine blk_far ?_ NB335_343.out _; refine pl ?_; refine blk_far ?_ NB335_343.out _; refine pl ?_; refine blk_far ?_ NB335_343.out _; refine pl ?_; refine blk_far ?_ NB335_343.out _; refine pl ?_; refine blk_far ?_ NB335_343.out _; refine pl ?_; refine blk_far ?_ NB335_343.out _; refine pl ?_; exact BK335.out) Tryd.underlying24 rfl (by kernel_rfl)) rfl ?_
  exact ⟨by first | rfl | (simp [errW_none, errW_some] <;> rfl) | (simp [*, errW_none, errW_some] <;> rfl), by repeat (first | (with_reducible first | exact HB.out | apply below_alloc | apply pw_below_drewN | apply below_drew1 | refine below_set ?_ GE333.out | refine below_set ?_ GE334.out | refine below_set ?_ GE335.out | refine below_set ?_ GE343.out) | exact HB.out)⟩
def galleylaw05_WeldAny.j0 : Nat → Bool → Int → Int → Int → Int → ByteArray → ByteArray → Int → Int → Int → Int → ByteArray → ByteArray → Option (Bool)
 | 0, _, _, _, _, _, _, _, _, _, _, _, _, _ => none
 | k + 1, x26, x349000, x349001, x349002, x349003, x349004, x349005, x350000, x350001, x350002, x350003, x350004, x350005 => if x26 = true then (none) else ((weld_Join.f k x349000 x349001 x349002 x349003 x349004 x349005 x350000 x350001 x350002 x350003 x350004 x350005).bind fun bt355 => ((galleyref05_Join.f k x349000 x349001 x349002 x349003 x349004 x349005 x350000 x350001 x350002 x350003 x350004 x350005).bind fun bt363 => ((weld_Seam.f k x349000 x349001 x349002 x349003 x349004 x349005 x350000 x350001 x350002 x350003 x350004 x350005).bind fun bt371 => ((galleyref05_Seam.f k x349000 x349001 x349002 x349003 x349004 x349005 x350000 x350001 x350002 x350003 x350004 x350005).bind fun bt377 => (if ((!(bt355.1 == bt363.1) || (!(bt355.2.1 == bt363.2.1) || (!(bt355.2.2.1 == bt363.2.2.1) || (!(bt355.2.2.2.1 == bt363.2.2.2.1))))) || (!(bt355.2.2.2.2.1.toList == bt363.2.2.2.2.1.toList) || (!(bt355.2.2.2.2.2.1.toList == bt363.2.2.2.2.2.1.toList)))) = true then (none) else (if bt355.2.2.2.2.2.2 = bt363.2.2.2.2.2.2 then (if (!(bt371.1 == bt377.1) || (!(bt371.2.1 == bt377.2.1) || (!(bt371.2.2.1 == bt377.2.2.1) || (!(bt371.2.2.2.1 == bt377.2.2.2.1))))) = true then (none) else (if bt371.2.2.2.2 = bt377.2.2.2.2 then (if bt355.2.2.2.2.2.2 = 0 then ((weld_Valid.f k bt355.1 bt355.2.1 bt355.2.2.1 bt355.2.2.2.1 bt355.2.2.2.2.1 bt355.2.2.2.2.2.1).bind fun t383 => (if t383 = true then (if bt371.1 = 0 then (if bt371.2.1 ≥ 0 then (if bt371.2.1 ≤ 3 then (if bt371.2.2.1 ≥ 0 then (if bt371.2.2.1 ≤ 2 then (if bt371.2.2.2.1 ≥ 0 then (some (decide (bt371.2.2.2.1 ≤ 1))) else (none)) else (none)) else (none)) else (none)) else (none)) else (none)) else (none))) else (some true)) else (none))) else (none)))))))
def galleylaw05_WeldAny.f (k : Nat) (a0_0 : Int) (a0_1 : Int) (a0_2 : Int) (a0_3 : Int) (a0_4 : ByteArray) (a0_5 : ByteArray) (a1_0 : Int) (a1_1 : Int) (a1_2 : Int) (a1_3 : Int) (a1_4 : ByteArray) (a1_5 : ByteArray) : Option (Bool) := (galleylaw05_fixed.f).bind fun t350 => (if t350 = true then ((weld_Valid.f k a0_0 a0_1 a0_2 a0_3 a0_4 a0_5).bind fun t351 => ((galleyref05_Valid.f k a0_0 a0_1 a0_2 a0_3 a0_4 a0_5).bind fun t352 => (if (t351 != t352) = true then (galleylaw05_WeldAny.j0 k true a0_0 a0_1 a0_2 a0_3 a0_4 a0_5 a1_0 a1_1 a1_2 a1_3 a1_4 a1_5) else ((weld_Valid.f k a1_0 a1_1 a1_2 a1_3 a1_4 a1_5).bind fun t353 => ((galleyref05_Valid.f k a1_0 a1_1 a1_2 a1_3 a1_4 a1_5).bind fun t354 => (galleylaw05_WeldAny.j0 k (t353 != t354) a0_0 a0_1 a0_2 a0_3 a0_4 a0_5 a1_0 a1_1 a1_2 a1_3 a1_4 a1_5)))))) else (none))
def galleylaw05_WeldAny.T3 : Bool × List (List Nat × List Nat) := (true, [([], []), ([0], [0]), ([], []), ([2, 1], [2]), ([1, 3], [1, 3]), ([4, 3], [4]), ([5], [5]), ([6, 5, 5], [5, 6]), ([5], [5]), ([8, 7, 5], [5, 8]), ([7, 9, 5], [5, 7, 9]), ([5, 10], [5, 10])])
def galleylaw05_WeldAny.B3 : List Nat := [0, 1, 0, 7, 15, 31, 63, 127, 63, 511, 1023, 2047]
theorem galleylaw05_WeldAny.tab3 : rtab .any (opsOf Tryd.f5 3) = galleylaw05_WeldAny.T3 := by kernel_rfl
theorem galleylaw05_WeldAny.bits3 : waitsOk galleylaw05_WeldAny.T3.2 galleylaw05_WeldAny.B3 = true := by kernel_rfl
set_option maxHeartbeats 8000000 in
set_option maxRecDepth 100000 in
theorem galleylaw05_WeldAny.calls (k : Nat) (a0_0 : Int) (a0_1 : Int) (a0_2 : Int) (a0_3 : Int) (a0_4 : ByteArray) (a0_5 : ByteArray) (a1_0 : Int) (a1_1 : Int) (a1_2 : Int) (a1_3 : Int) (a1_4 : ByteArray) (a1_5 : ByteArray) (r : Bool) (w : World) (hG : Glob.Globs w) (h : galleylaw05_WeldAny.f k a0_0 a0_1 a0_2 a0_3 a0_4 a0_5 a1_0 a1_1 a1_2 a1_3 a1_4 a1_5 = some r) :
  Calls Tryd.prog 5 #[.agg #[.int .i64 a0_0, .int .i64 a0_1, .int .i64 a0_2, .int .i64 a0_3, .string a0_4, .string a0_5], .agg #[.int .i64 a1_0, .int .i64 a1_1, .int .i64 a1_2, .int .i64 a1_3, .string a1_4, .string a1_5]] w fun e w' => e = .returned (.bool r) ∧ Below w.heap.size w w' := by
 have hu26 := Tryd.underlying26
 have hu24 := Tryd.underlying24
 have HG := Aside0.mk hG; clear hG
 have HB := Aside0.mk (Below.refl w.heap.size w)
 have H : ((galleylaw05_fixed.f).bind fun t350 => (if t350 = true then ((weld_Valid.f k a0_0 a0_1 a0_2 a0_3 a0_4 a0_5).bind fun t351 => ((galleyref05_Valid.f k a0_0 a0_1 a0_2 a0_3 a0_4 a0_5).bind fun t352 => (if (t351 != t352) = true then (galleylaw05_WeldAny.j0 k true a0_0 a0_1 a0_2 a0_3 a0_4 a0_5 a1_0 a1_1 a1_2 a1_3 a1_4 a1_5) else ((weld_Valid.f k a1_0 a1_1 a1_2 a1_3 a1_4 a1_5).bind fun t353 => ((galleyref05_Valid.f k a1_0 a1_1 a1_2 a1_3 a1_4 a1_5).bind fun t354 => (galleylaw05_WeldAny.j0 k (t353 != t354) a0_0 a0_1 a0_2 a0_3 a0_4 a0_5 a1_0 a1_1 a1_2 a1_3 a1_4 a1_5)))))) else (none))) = some r := h
 clear h
 replace H := Option.bind_eq_some_iff.mp H
 obtain ⟨t350, A30, H⟩ := H
 have A3 := Aside0.mk A30; clear A30
 by_cases c4 : t350 = true
 ·subst c4
  have H1 : ((weld_Valid.f k a0_0 a0_1 a0_2 a0_3 a0_4 a0_5).bind fun t351 => ((galleyref05_Valid.f k a0_0 a0_1 a0_2 a0_3 a0_4 a0_5).bind fun t352 => (if (t351 != t352) = true then (galleylaw05_WeldAny.j0 k true a0_0 a0_1 a0_2 a0_3 a0_4 a0_5 a1_0 a1_1 a1_2 a1_3 a1_4 a1_5) else ((weld_Valid.f k a1_0 a1_1 a1_2 a1_3 a1_4 a1_5).bind fun t353 => ((galleyref05_Valid.f k a1_0 a1_1 a1_2 a1_3 a1_4 a1_5).bind fun t354 => (galleylaw05_WeldAny.j0 k (t353 != t354) a0_0 a0_1 a0_2 a0_3 a0_4 a0_5 a1_0 a1_1 a1_2 a1_3 a1_4 a1_5)))))) = some r := by rw [if_pos rfl] at H; exact H
  clear H; have H := H1; clear H1; have HC5 := Aside0.mk H; clear H
  go_enter Tryd.func5, Tryd.ntmps5
  go_upto_region 3 with (first | ((with_reducible refine gate_dst (N := 2) rfl ?_); refine box_event ?hg (N := 2) ?hd (cs := #[.int .i64 a0_0, .int .i64 a0_1, .int .i64 a0_2, .int .i64 a0_3, .string a0_4, .string a0_5]) (t := 26) ?hr ?_; (case hd => rfl); (case hg => rfl); (case hr => first | (go_simp; done) | (go_simp; rfl)); intro gb348 hg w6 hbox hb; have n0_ := Aside0.mk (below_step (bl HB.out) hb); have n1_ := Aside0.mk (hbox); have n2_ := Aside0.mk ((by rw [hg]; exact (below_size (bl HB.out)) : w.heap.size ≤ gb348)); have n3_ := Aside0.mk ((by rw [hg]; exact (below_size (bl HB.out)) : w.heap.size ≤ gb348)); clear HB; have HB := n0_; have BK348 := n1_; have GW348 := n2_; have GE348 := n3_; clear n0_ n1_ n2_ n3_; clear hb hbox hg) | ((with_reducible refine gate_dst (N := 3) rfl ?_); refine box_event ?hg (N := 3) ?hd (cs := #[.int .i64 a1_0, .int .i64 a1_1, .int .i64 a1_2, .int .i64 a1_3, .string a1_4, .string a1_5]) (t := 26) ?hr ?_; (case hd => rfl); (case hg => rfl); (case hr => first | (go_simp; done) | (go_simp; rfl)); intro gb349 hg w7 hbox hb; have n0_ := Aside0.mk (blk_below (pl BK348.out) hb); have n1_ := Aside0.mk (below_step (by repeat (first | (with_reducible first | exact HB.out | apply below_alloc | apply pw_below_drewN | apply below_drew1 | refine below_set ?_ GE348.out) | exact HB.out)) hb); have n2_ := Aside0.mk (hbox); have n3_ := Aside0.mk ((by rw [hg]; exact (below_size (by repeat (first | (with_reducible first | exact HB.out | apply below_alloc | apply pw_below_drewN | apply below_drew1 | refine below_set ?_ GE348.out) | exact HB.out))) : w.heap.size ≤ gb349)); have n4_ := Aside0.mk ((by rw [hg]; exact (below_size (by repeat (first | (with_reducible first | exact HB.out | apply below_alloc | apply pw_below_drewN | apply below_drew1 | refine below_set ?_ GE348.out) | exact HB.out))) : w.heap.size ≤ gb349)); have n5_ := Aside0.mk ((by rw [hg]; exact Nat.ne_of_lt (blk_lt (pl BK348.out)) : gb348 ≠ gb349)); have n6_ := Aside0.mk ((by rw [hg]; exact Nat.ne_of_gt (blk_lt (pl BK348.out)) : gb349 ≠ gb348)); clear BK348; clear HB; have BK348 := n0_; have HB := n1_; have BK349 := n2_; have GW349 := n3_; have GE349 := n4_; have NB348_349 := n5_; have NB349_348 := n6_; clear n0_ n1_ n2_ n3_ n4_ n5_ n6_; clear hb hbox hg) | ((with_reducible refine gate_callee (f := 10) rfl ?_); refine goesL_ (some 13) rfl rfl Tryd.func10 (by kernel_rfl) rfl #[] rfl (by (try simp only [List.map_toArray, List.map_cons, List.map_nil]); first | done | rfl | (simp only [List.length_drop, List.length_take]; rfl)) ?_; (with_reducible refine (galleylaw05_fixed.calls  true _ ?side1 A3.out).mono ?_); (case side1 => first | (with_reducible exact HG.out) | exact Glob.Globs_below HG.out (by repeat (first | (with_reducible first | exact HB.out | apply below_alloc | apply pw_below_drewN | apply below_drew1 | refine below_set ?_ GE348.out | refine below_set ?_ GE349.out) | exact HB.out))); rintro e w8 ⟨rfl, hb⟩; refine ⟨_, rfl, ?_⟩; have n0_ := Aside0.mk (blk_below (pl BK348.out) hb); have n1_ := Aside0.mk (blk_below (pl BK349.out) hb); have n2_ := Aside0.mk (below_step (by repeat (first | (with_reducible first | exact HB.out | apply below_alloc | apply pw_below_drewN | apply below_drew1 | refine below_set ?_ GE348.out | refine below_set ?_ GE349.out) | exact HB.out)) hb); clear BK348; clear BK349; clear HB; have BK348 := n0_; have BK349 := n1_; have HB := n2_; clear n0_ n1_ n2_; (try clear hb); (try clear hb2); (try clear hk); (try clear hi)))
  (try simp only [Act.put, List.setIfInBounds_toArray, List.set_cons_zero, List.set_cons_succ])
  go_cut [26] (fun v26 wc => ∃ (kq : Nat) (x26_4 : Bool), v26 = .bool x26_4 ∧ Aside0 (galleylaw05_WeldAny.j0 kq x26_4 a0_0 a0_1 a0_2 a0_3 a0_4 a0_5 a1_0 a1_1 a1_2 a1_3 a1_4 a1_5 = some r) ∧ Aside0 (kq ≤ k) ∧ Aside0 (wc.heap[gb348]? = some (.cells #[.int .i64 a0_0, .int .i64 a0_1, .int .i64 a0_2, .int .i64 a0_3, .string a0_4, .string a0_5] 26 (0, 0))) ∧ Aside0 (wc.heap[gb349]? = some (.cells #[.int .i64 a1_0, .int .i64 a1_1, .int .i64 a1_2, .int .i64 a1_3, .string a1_4, .string a1_5] 26 (0, 0))) ∧ Aside0 (Below w.heap.size w wc))
  case first =>
   have H := HC5.out; clear HC5
   replace H := Option.bind_eq_some_iff.mp H
   obtain ⟨t351, A90, H⟩ := H
   have A9 := Aside0.mk A90; clear A90
   replace H := Option.bind_eq_some_iff.mp H
   obtain ⟨t352, A100, H⟩ := H
   have A10 := Aside0.mk A100; clear A100
   by_cases c11 : (t351 != t352) = true
   ·rw [if_pos c11] at H
    have c11b0 : (t351 != t352) = true := c11
    (try (have c11b1 : decide (t351 = t352) = false := by simpa using c11))
    (try (have c11b2 : (t351 == t352) = false := by simpa using c11))
    (try (have c11b3 : ¬ (t351 = t352) := by simpa using c11))
    clear c11
    (first | rw [c11b0] | (simp only [i64_w, i32_w]; rw [c11b0]) | skip)
    have H' := Aside0.mk H; clear H
    try go_wp2
    have n0_ := Aside0.mk (blk_drew BK348.out)
    have n1_ := Aside0.mk (blk_drew BK349.out)
    have n2_ := Aside0.mk (below_drew1 HB.out)
    clear BK348; clear BK349; clear HB; have BK348 := n0_; have BK349 := n1_; have HB := n2_; clear n0_ n1_ n2_
    refine start_ (n := 12) (S := fun w' => w'.cell? ⟨gb348, 0, none⟩ = some (.int .i64 a0_0) ∧ w'.cell? ⟨gb348, 1, none⟩ = some (.int .i64 a0_1) ∧ w'.cell? ⟨gb348, 2, none⟩ = some (.int .i64 a0_2) ∧ w'.cell? ⟨gb348, 3, none⟩ = some (.int .i64 a0_3) ∧ w'.cell? ⟨gb348, 4, none⟩ = some (.string a0_4) ∧ w'.cell? ⟨gb348, 5, none⟩ = some (.string a0_5)) (ds := []) #[false, false, false, false, false, false, false, false, false, false, false, false] (by kernel_rfl) rfl rfl ⟨(blk_cell BK348.out 0).trans rfl, (blk_cell BK348.out 1).trans rfl, (blk_cell BK348.out 2).trans rfl, (blk_cell BK348.out 3).trans rfl, (blk_cell BK348.out 4).trans rfl, (blk_cell BK348.out 5).trans rfl⟩ (fun hHeld => ?_); refine with_tabW galleylaw05_WeldAny.tab3 galleylaw05_WeldAny.bits3 (fun HT_ HW_ => ?_)
    generalize w8.drew = w12 at BK348 BK349 HB hHeld ⊢
    refine take_ (i := 0) (N := some 15) (v := ?_) (a' := ?_) #[true, false, false, false, false, false, false, false, false, false, false, false] rfl rfl (take_ofW HT_.out HW_.out (by kernel_rfl)) (fun _ _ _ h => h) (Or.inl ⟨by rfl, ?_⟩) hHeld ?_ ?_
    rotate_left
    ·rintro w' ⟨s0, s1, s2, s3, s4, s5⟩
     go_simp
     with_reducible rfl
    rotate_left
    ·simp only [Act.put, List.setIfInBounds_toArray, List.set_cons_zero, List.set_cons_succ, i64_w, i32_w]
     rfl
    refine take_ (i := 2) (N := some 17) (v := ?_) (a' := ?_) #[true, false, true, false, false, false, false, false, false, false, false, false] rfl rfl (take_ofW HT_.out HW_.out (by kernel_rfl)) (fun _ _ _ h => h) (Or.inl ⟨by rfl, ?_⟩) hHeld ?_ ?_
    rotate_left
    ·rintro w' ⟨s0, s1, s2, s3, s4, s5⟩
     go_simp
     with_reducible rfl
    rotate_left
    ·simp only [Act.put, List.setIfInBounds_toArray, List.set_cons_zero, List.set_cons_succ, i64_w, i32_w]
     rfl
    refine one_ (i := 1) (N := some 16) #[true, true, true, false, false, false, false, false, false, false, false, false] rfl rfl (one_of HT_.out (by kernel_rfl)) (by decide) (fun K hK => ?_)
    refine goes_ Tryd.func11 (by kernel_rfl) rfl #[.agg #[.int .i64 a0_0, .int .i64 a0_1, .int .i64 a0_2, .int .i64 a0_3, .string a0_4, .string a0_5]] (by rfl) rfl rfl (by (try simp only [List.map_toArray, List.map_cons, List.map_nil]); first | done | rfl | (simp only [List.length_drop, List.length_take]; rfl)) ?_
    with_reducible refine (weld_Valid.calls k a0_0 a0_1 a0_2 a0_3 a0_4 a0_5 t351 _ ?side1 A9.out).mono ?_
    (case side1 => first | (with_reducible exact HG.out) | exact Glob.Globs_below HG.out (by repeat (first | (with_reducible first | exact HB.out | apply below_alloc | apply pw_below_drewN | apply below_drew1 | refine below_set ?_ GE348.out | refine below_set ?_ GE349.out) | exact HB.out)))
    rintro e w13 ⟨rfl, hb⟩
    refine ⟨_, rfl, ?_⟩
    have n0_ := Aside0.mk (blk_below (pl BK348.out) hb)
    have n1_ := Aside0.mk (blk_below (pl BK349.out) hb)
    have n2_ := Aside0.mk (below_step (by repeat (first | (with_reducible first | exact HB.out | apply below_alloc | apply pw_below_drewN | apply below_drew1 | refine below_set ?_ GE348.out | refine below_set ?_ GE349.out) | exact HB.out)) hb)
    clear BK348; clear BK349; clear HB; have BK348 := n0_; have BK349 := n1_; have HB := n2_; clear n0_ n1_ n2_
    (try clear hb)
    (try clear hb2)
    (try clear hk)
    (try clear hi)
    refine hK.out _ _ ⟨(blk_cell BK348.out 0).trans rfl, (blk_cell BK348.out 1).trans rfl, (blk_cell BK348.out 2).trans rfl, (blk_cell BK348.out 3).trans rfl, (blk_cell BK348.out 4).trans rfl, (blk_cell BK348.out 5).trans rfl⟩ (fun hHeld => ?_)
    clear hK K
    refine norm_ (a' := ?_) ?_ ?_
    rotate_left
    ·show Act.put _ (some 16) _ = _
     simp only [Act.put, List.setIfInBounds_toArray, List.set_cons_zero, List.set_cons_succ, i64_w, i32_w]
     rfl
    refine one_ (i := 3) (N := some 18) #[true, true, true, true, false, false, false, false, false, false, false, false] rfl rfl (one_of HT_.out (by kernel_rfl)) (by decide) (fun K hK => ?_)
    refine goes_ Tryd.func16 (by kernel_rfl) rfl #[.agg #[.int .i64 a0_0, .int .i64 a0_1, .int .i64 a0_2, .int .i64 a0_3, .string a0_4, .string a0_5]] (by rfl) rfl rfl (by (try simp only [List.map_toArray, List.map_cons, List.map_nil]); first | done | rfl | (simp only [List.length_drop, List.length_take]; rfl)) ?_
    with_reducible refine (galleyref05_Valid.calls k a0_0 a0_1 a0_2 a0_3 a0_4 a0_5 t352 _ A10.out).mono ?_
    rintro e w14 ⟨rfl, hb⟩
    refine ⟨_, rfl, ?_⟩
    have n0_ := Aside0.mk (blk_below (pl BK348.out) hb)
    have n1_ := Aside0.mk (blk_below (pl BK349.out) hb)
    have n2_ := Aside0.mk (below_step (by repeat (first | (with_reducible first | exact HB.out | apply below_alloc | apply pw_below_drewN | apply below_drew1 | refine below_set ?_ GE348.out | refine below_set ?_ GE349.out) | exact HB.out)) hb)
    clear BK348; clear BK349; clear HB; have BK348 := n0_; have BK349 := n1_; have HB := n2_; clear n0_ n1_ n2_
    (try clear hb)
    (try clear hb2)
    (try clear hk)
    (try clear hi)
    refine hK.out _ _ ⟨(blk_cell BK348.out 0).trans rfl, (blk_cell BK348.out 1).trans rfl, (blk_cell BK348.out 2).trans rfl, (blk_cell BK348.out 3).trans rfl, (blk_cell BK348.out 4).trans rfl, (blk_cell BK348.out 5).trans rfl⟩ (fun hHeld => ?_)
    clear hK K
    refine norm_ (a' := ?_) ?_ ?_
    rotate_left
    ·show Act.put _ (some 18) _ = _
     simp only [Act.put, List.setIfInBounds_toArray, List.set_cons_zero, List.set_cons_succ, i64_w, i32_w]
     rfl
    refine pure_ (i := 4) (N := some 19) (v := ?_) (a' := ?_) #[true, true, true, true, true, false, false, false, false, false, false, false] rfl rfl (any_of HT_.out (by kernel_rfl)) (fun _ _ _ h => h) (Or.inl ⟨by rfl, ?_⟩) ?_ ?_
    rotate_left
    ·intro w'
     go_simp
     with_reducible rfl
    rotate_left
    ·simp only [Act.put, List.setIfInBounds_toArray, List.set_cons_zero, List.set_cons_succ, i64_w, i32_w]
     rfl
    refine pure_ (i := 5) (N := some 20) (v := ?_) (a' := ?_) #[true, true, true, true, true, true, false, false, false, false, false, false] rfl rfl (any_of HT_.out (by kernel_rfl)) (fun _ _ _ h => h) (Or.inl ⟨by rfl, ?_⟩) ?_ ?_
    rotate_left
    ·intro w'
     go_simp
     with_reducible rfl
    rotate_left
    ·simp only [Act.put, List.setIfInBounds_toArray, List.set_cons_zero, List.set_cons_succ, i64_w, i32_w]
     rfl
    refine pure_ (i := 6) (N := some 21) (v := undef) (a' := ?_) #[true, true, true, true, true, true, true, false, false, false, false, false] rfl rfl (any_of HT_.out (by kernel_rfl)) (fun _ _ _ h => h) (Or.inr ⟨by rfl, rfl⟩) ?_ ?_
    rotate_left
    ·simp only [Act.put, List.setIfInBounds_toArray, List.set_cons_zero, List.set_cons_succ, i64_w, i32_w]
     rfl
    refine pure_ (i := 7) (N := some 22) (v := undef) (a' := ?_) #[true, true, true, true, true, true, true, true, false, false, false, false] rfl rfl (any_of HT_.out (by kernel_rfl)) (fun _ _ _ h => h) (Or.inr ⟨by rfl, rfl⟩) ?_ ?_
    rotate_left
    ·simp only [Act.put, List.setIfInBounds_toArray, List.set_cons_zero, List.set_cons_succ, i64_w, i32_w]
     rfl
    refine pure_ (i := 8) (N := some 23) (v := undef) (a' := ?_) #[true, true, true, true, true, true, true, true, true, false, false, false] rfl rfl (any_of HT_.out (by kernel_rfl)) (fun _ _ _ h => h) (Or.inr ⟨by rfl, rfl⟩) ?_ ?_
    rotate_left
    ·simp only [Act.put, List.setIfInBounds_toArray, List.set_cons_zero, List.set_cons_succ, i64_w, i32_w]
     rfl
    refine pure_ (i := 9) (N := some 24) (v := undef) (a' := ?_) #[true, true, true, true, true, true, true, true, true, true, false, false] rfl rfl (any_of HT_.out (by kernel_rfl)) (fun _ _ _ h => h) (Or.inr ⟨by rfl, rfl⟩) ?_ ?_
    rotate_left
    ·simp only [Act.put, List.setIfInBounds_toArray, List.set_cons_zero, List.set_cons_succ, i64_w, i32_w]
     rfl
    refine pure_ (i := 10) (N := some 25) (v := undef) (a' := ?_) #[true, true, true, true, true, true, true, true, true, true, true, false] rfl rfl (any_of HT_.out (by kernel_rfl)) (fun _ _ _ h => h) (Or.inr ⟨by rfl, rfl⟩) ?_ ?_
    rotate_left
    ·simp only [Act.put, List.setIfInBounds_toArray, List.set_cons_zero, List.set_cons_succ, i64_w, i32_w]
     rfl
    refine pure_ (i := 11) (N := some 26) (v := ?_) (a' := ?_) #[true, true, true, true, true, true, true, true, true, true, true, true] rfl rfl (any_of HT_.out (by kernel_rfl)) (fun _ _ _ h => h) (Or.inl ⟨by rfl, ?_⟩) ?_ ?_
    rotate_left
    ·intro w'
     go_simp
     with_reducible rfl
    rotate_left
    ·simp only [Act.put, List.setIfInBounds_toArray, List.set_cons_zero, List.set_cons_succ, i64_w, i32_w]
     rfl
    refine done_ (done_of HT_.out (by kernel_rfl)) ?_
    try go_wp2
    go_meet
    case rel => exact ⟨_, (true), (by first | rfl | (simp; done) | (simp [*]; done)), H', ⟨by first | omega | exact Nat.le_refl _⟩, ⟨pl BK348.out⟩, ⟨pl BK349.out⟩, ⟨by repeat (first | (with_reducible first | exact HB.out | apply below_alloc | apply pw_below_drewN | apply below_drew1 | refine below_set ?_ GE348.out | refine below_set ?_ GE349.out) | exact HB.out)⟩⟩
   ·rw [if_neg c11] at H
    have c11b0 : (t351 != t352) = false := by simpa using c11
    (try (have c11b1 : decide (t351 = t352) = true := by simpa using c11))
    (try (have c11b2 : (t351 == t352) = true := by simpa using c11))
    clear c11
    (first | rw [c11b0] | (simp only [i64_w, i32_w]; rw [c11b0]) | skip)
    replace H := Option.bind_eq_some_iff.mp H
    obtain ⟨t353, A150, H⟩ := H
    have A15 := Aside0.mk A150; clear A150
    replace H := Option.bind_eq_some_iff.mp H
    obtain ⟨t354, A160, H⟩ := H
    have A16 := Aside0.mk A160; clear A160; have H' := Aside0.mk H; clear H
    try go_wp2
    have n0_ := Aside0.mk (blk_drew BK348.out)
    have n1_ := Aside0.mk (blk_drew BK349.out)
    have n2_ := Aside0.mk (below_drew1 HB.out)
    clear BK348; clear BK349; clear HB; have BK348 := n0_; have BK349 := n1_; have HB := n2_; clear n0_ n1_ n2_
    refine start_ (n := 12) (S := fun w' => w'.cell? ⟨gb348, 0, none⟩ = some (.int .i64 a0_0) ∧ w'.cell? ⟨gb348, 1, none⟩ = some (.int .i64 a0_1) ∧ w'.cell? ⟨gb348, 2, none⟩ = some (.int .i64 a0_2) ∧ w'.cell? ⟨gb348, 3, none⟩ = some (.int .i64 a0_3) ∧ w'.cell? ⟨gb348, 4, none⟩ = some (.string a0_4) ∧ w'.cell? ⟨gb348, 5, none⟩ = some (.string a0_5) ∧ w'.cell? ⟨gb349, 0, none⟩ = some (.int .i64 a1_0) ∧ w'.cell? ⟨gb349, 1, none⟩ = some (.int .i64 a1_1) ∧ w'.cell? ⟨gb349, 2, none⟩ = some (.int .i64 a1_2) ∧ w'.cell? ⟨gb349, 3, none⟩ = some (.int .i64 a1_3) ∧ w'.cell? ⟨gb349, 4, none⟩ = some (.string a1_4) ∧ w'.cell? ⟨gb349, 5, none⟩ = some (.string a1_5)) (ds := []) #[false, false, false, false, false, false, false, false, false, false, false, false] (by kernel_rfl) rfl rfl ⟨(blk_cell BK348.out 0).trans rfl, (blk_cell BK348.out 1).trans rfl, (blk_cell BK348.out 2).trans rfl, (blk_cell BK348.out 3).trans rfl, (blk_cell BK348.out 4).trans rfl, (blk_cell BK348.out 5).trans rfl, (blk_cell BK349.out 0).trans rfl, (blk_cell BK349.out 1).trans rfl, (blk_cell BK349.out 2).trans rfl, (blk_cell BK349.out 3).trans rfl, (blk_cell BK349.out 4).trans rfl, (blk_cell BK349.out 5).trans rfl⟩ (fun hHeld => ?_); refine with_tabW galleylaw05_WeldAny.tab3 galleylaw05_WeldAny.bits3 (fun HT_ HW_ => ?_)
    generalize w8.drew = w17 at BK348 BK349 HB hHeld ⊢
    refine take_ (i := 0) (N := some 15) (v := ?_) (a' := ?_) #[true, false, false, false, false, false, false, false, false, false, false, false] rfl rfl (take_ofW HT_.out HW_.out (by kernel_rfl)) (fun _ _ _ h => h) (Or.inl ⟨by rfl, ?_⟩) hHeld ?_ ?_
    rotate_left
    ·rintro w' ⟨s0, s1, s2, s3, s4, s5, s6, s7, s8, s9, s10, s11⟩
     go_simp
     with_reducible rfl
    rotate_left
    ·simp only [Act.put, List.setIfInBounds_toArray, List.set_cons_zero, List.set_cons_succ, i64_w, i32_w]
     rfl
    refine take_ (i := 2) (N := some 17) (v := ?_) (a' := ?_) #[true, false, true, false, false, false, false, false, false, false, false, false] rfl rfl (take_ofW HT_.out HW_.out (by kernel_rfl)) (fun _ _ _ h => h) (Or.inl ⟨by rfl, ?_⟩) hHeld ?_ ?_
    rotate_left
    ·rintro w' ⟨s0, s1, s2, s3, s4, s5, s6, s7, s8, s9, s10, s11⟩
     go_simp
     with_reducible rfl
    rotate_left
    ·simp only [Act.put, List.setIfInBounds_toArray, List.set_cons_zero, List.set_cons_succ, i64_w, i32_w]
     rfl
    refine one_ (i := 1) (N := some 16) #[true, true, true, false, false, false, false, false, false, false, false, false] rfl rfl (one_of HT_.out (by kernel_rfl)) (by decide) (fun K hK => ?_)
    refine goes_ Tryd.func11 (by kernel_rfl) rfl #[.agg #[.int .i64 a0_0, .int .i64 a0_1, .int .i64 a0_2, .int .i64 a0_3, .string a0_4, .string a0_5]] (by rfl) rfl rfl (by (try simp only [List.map_toArray, List.map_cons, List.map_nil]); first | done | rfl | (simp only [List.length_drop, List.length_take]; rfl)) ?_
    with_reducible refine (weld_Valid.calls k a0_0 a0_1 a0_2 a0_3 a0_4 a0_5 t351 _ ?side1 A9.out).mono ?_
    (case side1 => first | (with_reducible exact HG.out) | exact Glob.Globs_below HG.out (by repeat (first | (with_reducible first | exact HB.out | apply below_alloc | apply pw_below_drewN | apply below_drew1 | refine below_set ?_ GE348.out | refine below_set ?_ GE349.out) | exact HB.out)))
    rintro e w18 ⟨rfl, hb⟩
    refine ⟨_, rfl, ?_⟩
    have n0_ := Aside0.mk (blk_below (pl BK348.out) hb)
    have n1_ := Aside0.mk (blk_below (pl BK349.out) hb)
    have n2_ := Aside0.mk (below_step (by repeat (first | (with_reducible first | exact HB.out | apply below_alloc | apply pw_below_drewN | apply below_drew1 | refine below_set ?_ GE348.out | refine below_set ?_ GE349.out) | exact HB.out)) hb)
    clear BK348; clear BK349; clear HB; have BK348 := n0_; have BK349 := n1_; have HB := n2_; clear n0_ n1_ n2_
    (try clear hb)
    (try clear hb2)
    (try clear hk)
    (try clear hi)
    refine hK.out _ _ ⟨(blk_cell BK348.out 0).trans rfl, (blk_cell BK348.out 1).trans rfl, (blk_cell BK348.out 2).trans rfl, (blk_cell BK348.out 3).trans rfl, (blk_cell BK348.out 4).trans rfl, (blk_cell BK348.out 5).trans rfl, (blk_cell BK349.out 0).trans rfl, (blk_cell BK349.out 1).trans rfl, (blk_cell BK349.out 2).trans rfl, (blk_cell BK349.out 3).trans rfl, (blk_cell BK349.out 4).trans rfl, (blk_cell BK349.out 5).trans rfl⟩ (fun hHeld => ?_)
    clear hK K
    refine norm_ (a' := ?_) ?_ ?_
    rotate_left
    ·show Act.put _ (some 16) _ = _
     simp only [Act.put, List.setIfInBounds_toArray, List.set_cons_zero, List.set_cons_succ, i64_w, i32_w]
     rfl
    refine one_ (i := 3) (N := some 18) #[true, true, true, true, false, false, false, false, false, false, false, false] rfl rfl (one_of HT_.out (by kernel_rfl)) (by decide) (fun K hK => ?_)
    refine goes_ Tryd.func16 (by kernel_rfl) rfl #[.agg #[.int .i64 a0_0, .int .i64 a0_1, .int .i64 a0_2, .int .i64 a0_3, .string a0_4, .string a0_5]] (by rfl) rfl rfl (by (try simp only [List.map_toArray, List.map_cons, List.map_nil]); first | done | rfl | (simp only [List.length_drop, List.length_take]; rfl)) ?_
    with_reducible refine (galleyref05_Valid.calls k a0_0 a0_1 a0_2 a0_3 a0_4 a0_5 t352 _ A10.out).mono ?_
    rintro e w19 ⟨rfl, hb⟩
    refine ⟨_, rfl, ?_⟩
    have n0_ := Aside0.mk (blk_below (pl BK348.out) hb)
    have n1_ := Aside0.mk (blk_below (pl BK349.out) hb)
    have n2_ := Aside0.mk (below_step (by repeat (first | (with_reducible first | exact HB.out | apply below_alloc | apply pw_below_drewN | apply below_drew1 | refine below_set ?_ GE348.out | refine below_set ?_ GE349.out) | exact HB.out)) hb)
    clear BK348; clear BK349; clear HB; have BK348 := n0_; have BK349 := n1_; have HB := n2_; clear n0_ n1_ n2_
    (try clear hb)
    (try clear hb2)
    (try clear hk)
    (try clear hi)
    refine hK.out _ _ ⟨(blk_cell BK348.out 0).trans rfl, (blk_cell BK348.out 1).trans rfl, (blk_cell BK348.out 2).trans rfl, (blk_cell BK348.out 3).trans rfl, (blk_cell BK348.out 4).trans rfl, (blk_cell BK348.out 5).trans rfl, (blk_cell BK349.out 0).trans rfl, (blk_cell BK349.out 1).trans rfl, (blk_cell BK349.out 2).trans rfl, (blk_cell BK349.out 3).trans rfl, (blk_cell BK349.out 4).trans rfl, (blk_cell BK349.out 5).trans rfl⟩ (fun hHeld => ?_)
    clear hK K
    refine norm_ (a' := ?_) ?_ ?_
    rotate_left
    ·show Act.put _ (some 18) _ = _
     simp only [Act.put, List.setIfInBounds_toArray, List.set_cons_zero, List.set_cons_succ, i64_w, i32_w]
     rfl
    refine pure_ (i := 4) (N := some 19) (v := ?_) (a' := ?_) #[true, true, true, true, true, false, false, false, false, false, false, false] rfl rfl (any_of HT_.out (by kernel_rfl)) (fun _ _ _ h => h) (Or.inl ⟨by rfl, ?_⟩) ?_ ?_
    rotate_left
    ·intro w'
     go_simp
     with_reducible rfl
    rotate_left
    ·simp only [Act.put, List.setIfInBounds_toArray, List.set_cons_zero, List.set_cons_succ, i64_w, i32_w]
     rfl
    refine pure_ (i := 5) (N := some 20) (v := ?_) (a' := ?_) #[true, true, true, true, true, true, false, false, false, false, false, false] rfl rfl (any_of HT_.out (by kernel_rfl)) (fun _ _ _ h => h) (Or.inl ⟨by rfl, ?_⟩) ?_ ?_
    rotate_left
    ·intro w'
     go_simp
     with_reducible rfl
    rotate_left
    ·simp only [Act.put, List.setIfInBounds_toArray, List.set_cons_zero, List.set_cons_succ, i64_w, i32_w]
     rfl
    refine take_ (i := 6) (N := some 21) (v := ?_) (a' := ?_) #[true, true, true, true, true, true, true, false, false, false, false, false] rfl rfl (take_ofW HT_.out HW_.out (by kernel_rfl)) (fun _ _ _ h => h) (Or.inl ⟨by rfl, ?_⟩) hHeld ?_ ?_
    rotate_left
    ·rintro w' ⟨s0, s1, s2, s3, s4, s5, s6, s7, s8, s9, s10, s11⟩
     go_simp
     with_reducible rfl
    rotate_left
    ·simp only [Act.put, List.setIfInBounds_toArray, List.set_cons_zero, List.set_cons_succ, i64_w, i32_w]
     rfl
    refine take_ (i := 8) (N := some 23) (v := ?_) (a' := ?_) #[true, true, true, true, true, true, true, false, true, false, false, false] rfl rfl (take_ofW HT_.out HW_.out (by kernel_rfl)) (fun _ _ _ h => h) (Or.inl ⟨by rfl, ?_⟩) hHeld ?_ ?_
    rotate_left
    ·rintro w' ⟨s0, s1, s2, s3, s4, s5, s6, s7, s8, s9, s10, s11⟩
     go_simp
     with_reducible rfl
    rotate_left
    ·simp only [Act.put, List.setIfInBounds_toArray, List.set_cons_zero, List.set_cons_succ, i64_w, i32_w]
     rfl
    refine one_ (i := 7) (N := some 22) #[true, true, true, true, true, true, true, true, true, false, false, false] rfl rfl (one_of HT_.out (by kernel_rfl)) (by decide) (fun K hK => ?_)
    refine goes_ Tryd.func11 (by kernel_rfl) rfl #[.agg #[.int .i64 a1_0, .int .i64 a1_1, .int .i64 a1_2, .int .i64 a1_3, .string a1_4, .string a1_5]] (by rfl) rfl rfl (by (try simp only [List.map_toArray, List.map_cons, List.map_nil]); first | done | rfl | (simp only [List.length_drop, List.length_take]; rfl)) ?_
    with_reducible refine (weld_Valid.calls k a1_0 a1_1 a1_2 a1_3 a1_4 a1_5 t353 _ ?side1 A15.out).mono ?_
    (case side1 => first | (with_reducible exact HG.out) | exact Glob.Globs_below HG.out (by repeat (first | (with_reducible first | exact HB.out | apply below_alloc | apply pw_below_drewN | apply below_drew1 | refine below_set ?_ GE348.out | refine below_set ?_ GE349.out) | exact HB.out)))
    rintro e w20 ⟨rfl, hb⟩
    refine ⟨_, rfl, ?_⟩
    have n0_ := Aside0.mk (blk_below (pl BK348.out) hb)
    have n1_ := Aside0.mk (blk_below (pl BK349.out) hb)
    have n2_ := Aside0.mk (below_step (by repeat (first | (with_reducible first | exact HB.out | apply below_alloc | apply pw_below_drewN | apply below_drew1 | refine below_set ?_ GE348.out | refine below_set ?_ GE349.out) | exact HB.out)) hb)
    clear BK348; clear BK349; clear HB; have BK348 := n0_; have BK349 := n1_; have HB := n2_; clear n0_ n1_ n2_
    (try clear hb)
    (try clear hb2)
    (try clear hk)
    (try clear hi)
    refine hK.out _ _ ⟨(blk_cell BK348.out 0).trans rfl, (blk_cell BK348.out 1).trans rfl, (blk_cell BK348.out 2).trans rfl, (blk_cell BK348.out 3).trans rfl, (blk_cell BK348.out 4).trans rfl, (blk_cell BK348.out 5).trans rfl, (blk_cell BK349.out 0).trans rfl, (blk_cell BK349.out 1).trans rfl, (blk_cell BK349.out 2).trans rfl, (blk_cell BK349.out 3).trans rfl, (blk_cell BK349.out 4).trans rfl, (blk_cell BK349.out 5).trans rfl⟩ (fun hHeld => ?_)
    clear hK K
    refine norm_ (a' := ?_) ?_ ?_
    rotate_left
    ·show Act.put _ (some 22) _ = _
     simp only [Act.put, List.setIfInBounds_toArray, List.set_cons_zero, List.set_cons_succ, i64_w, i32_w]
     rfl
    refine one_ (i := 9) (N := some 24) #[true, true, true, true, true, true, true, true, true, true, false, false] rfl rfl (one_of HT_.out (by kernel_rfl)) (by decide) (fun K hK => ?_)
    refine goes_ Tryd.func16 (by kernel_rfl) rfl #[.agg #[.int .i64 a1_0, .int .i64 a1_1, .int .i64 a1_2, .int .i64 a1_3, .string a1_4, .string a1_5]] (by rfl) rfl rfl (by (try simp only [List.map_toArray, List.map_cons, List.map_nil]); first | done | rfl | (simp only [List.length_drop, List.length_take]; rfl)) ?_
    with_reducible refine (galleyref05_Valid.calls k a1_0 a1_1 a1_2 a1_3 a1_4 a1_5 t354 _ A16.out).mono ?_
    rintro e w21 ⟨rfl, hb⟩
    refine ⟨_, rfl, ?_⟩
    have n0_ := Aside0.mk (blk_below (pl BK348.out) hb)
    have n1_ := Aside0.mk (blk_below (pl BK349.out) hb)
    have n2_ := Aside0.mk (below_step (by repeat (first | (with_reducible first | exact HB.out | apply below_alloc | apply pw_below_drewN | apply below_drew1 | refine below_set ?_ GE348.out | refine below_set ?_ GE349.out) | exact HB.out)) hb)
    clear BK348; clear BK349; clear HB; have BK348 := n0_; have BK349 := n1_; have HB := n2_; clear n0_ n1_ n2_
    (try clear hb)
    (try clear hb2)
    (try clear hk)
    (try clear hi)
    refine hK.out _ _ ⟨(blk_cell BK348.out 0).trans rfl, (blk_cell BK348.out 1).trans rfl, (blk_cell BK348.out 2).trans rfl, (blk_cell BK348.out 3).trans rfl, (blk_cell BK348.out 4).trans rfl, (blk_cell BK348.out 5).trans rfl, (blk_cell BK349.out 0).trans rfl, (blk_cell BK349.out 1).trans rfl, (blk_cell BK349.out 2).trans rfl, (blk_cell BK349.out 3).trans rfl, (blk_cell BK349.out 4).trans rfl, (blk_cell BK349.out 5).trans rfl⟩ (fun hHeld => ?_)
    clear hK K
    refine norm_ (a' := ?_) ?_ ?_
    rotate_left
    ·show Act.put _ (some 24) _ = _
     simp only [Act.put, List.setIfInBounds_toArray, List.set_cons_zero, List.set_cons_succ, i64_w, i32_w]
     rfl
    refine pure_ (i := 10) (N := some 25) (v := ?_) (a' := ?_) #[true, true, true, true, true, true, true, true, true, true, true, false] rfl rfl (any_of HT_.out (by kernel_rfl)) (fun _ _ _ h => h) (Or.inl ⟨by rfl, ?_⟩) ?_ ?_
    rotate_left
    ·intro w'
     go_simp
     with_reducible rfl
    rotate_left
    ·simp only [Act.put, List.setIfInBounds_toArray, List.set_cons_zero, List.set_cons_succ, i64_w, i32_w]
     rfl
    refine pure_ (i := 11) (N := some 26) (v := ?_) (a' := ?_) #[true, true, true, true, true, true, true, true, true, true, true, true] rfl rfl (any_of HT_.out (by kernel_rfl)) (fun _ _ _ h => h) (Or.inl ⟨by rfl, ?_⟩) ?_ ?_
    rotate_left
    ·intro w'
     go_simp
     with_reducible rfl
    rotate_left
    ·simp only [Act.put, List.setIfInBounds_toArray, List.set_cons_zero, List.set_cons_succ, i64_w, i32_w]
     rfl
    refine done_ (done_of HT_.out (by kernel_rfl)) ?_
    try go_wp2
    go_meet
    case rel => exact ⟨_, ((t353 != t354)), (by first | rfl | (simp; done) | (simp [*]; done)), H', ⟨by first | omega | exact Nat.le_refl _⟩, ⟨pl BK348.out⟩, ⟨pl BK349.out⟩, ⟨by repeat (first | (with_reducible first | exact HB.out | apply below_alloc | apply pw_below_drewN | apply below_drew1 | refine below_set ?_ GE348.out | refine below_set ?_ GE349.out) | exact HB.out)⟩⟩
  case rest =>
   clear HC5; (try clear c1); (try clear p2); (try clear c4); (try clear c5); (try clear c10); (try clear c11); (try clear c11b0); (try clear c11b1); (try clear c11b2); (try clear c16)
   obtain ⟨kq, x26_4, rfl, HA, HJ4, BK348, BK349, HB⟩ := hcut
   cases kq with
   | zero => exact absurd HA.out (by simp [galleylaw05_WeldAny.j0])
   | succ kj4 =>
    have H := HA.out; clear HA
    simp only [galleylaw05_WeldAny.j0] at H
    by_cases c22 : x26_4 = true
    ·subst c22
     have H1 : (none) = some r := by rw [if_pos rfl] at H; exact H
     clear H; have H := H1; clear H1
     exact absurd H (by simp)
    ·replace c22 := Bool.eq_false_iff.mpr c22
     subst c22
     have H1 : ((weld_Join.f kj4 a0_0 a0_1 a0_2 a0_3 a0_4 a0_5 a1_0 a1_1 a1_2 a1_3 a1_4 a1_5).bind fun bt355 => ((galleyref05_Join.f kj4 a0_0 a0_1 a0_2 a0_3 a0_4 a0_5 a1_0 a1_1 a1_2 a1_3 a1_4 a1_5).bind fun bt363 => ((weld_Seam.f kj4 a0_0 a0_1 a0_2 a0_3 a0_4 a0_5 a1_0 a1_1 a1_2 a1_3 a1_4 a1_5).bind fun bt371 => ((galleyref05_Seam.f kj4 a0_0 a0_1 a0_2 a0_3 a0_4 a0_5 a1_0 a1_1 a1_2 a1_3 a1_4 a1_5).bind fun bt377 => (if ((!(bt355.1 == bt363.1) || (!(bt355.2.1 == bt363.2.1) || (!(bt355.2.2.1 == bt363.2.2.1) || (!(bt355.2.2.2.1 == bt363.2.2.2.1))))) || (!(bt355.2.2.2.2.1.toList == bt363.2.2.2.2.1.toList) || (!(bt355.2.2.2.2.2.1.toList == bt363.2.2.2.2.2.1.toList)))) = true then (none) else (if bt355.2.2.2.2.2.2 = bt363.2.2.2.2.2.2 then (if (!(bt371.1 == bt377.1) || (!(bt371.2.1 == bt377.2.1) || (!(bt371.2.2.1 == bt377.2.2.1) || (!(bt371.2.2.2.1 == bt377.2.2.2.1))))) = true then (none) else (if bt371.2.2.2.2 = bt377.2.2.2.2 then (if bt355.2.2.2.2.2.2 = 0 then ((weld_Valid.f kj4 bt355.1 bt355.2.1 bt355.2.2.1 bt355.2.2.2.1 bt355.2.2.2.2.1 bt355.2.2.2.2.2.1).bind fun t383 => (if t383 = true then (if bt371.1 = 0 then (if bt371.2.1 ≥ 0 then (if bt371.2.1 ≤ 3 then (if bt371.2.2.1 ≥ 0 then (if bt371.2.2.1 ≤ 2 then (if bt371.2.2.2.1 ≥ 0 then (some (decide (bt371.2.2.2.1 ≤ 1))) else (none)) else (none)) else (none)) else (none)) else (none)) else (none)) else (none))) else (some true)) else (none))) else (none))))))) = some r := by rw [if_neg (show ¬ (false = true) by decide)] at H; exact H
     clear H; have H := H1; clear H1
     replace H := Option.bind_eq_some_iff.mp H
     obtain ⟨⟨t355, t356, t357, t358, t359, t360, t361⟩, A230, H⟩ := H
     have A23 := Aside0.mk A230; clear A230
     replace H := Option.bind_eq_some_iff.mp H
     obtain ⟨⟨t363, t364, t365, t366, t367, t368, t369⟩, A240, H⟩ := H
     have A24 := Aside0.mk A240; clear A240
     replace H := Option.bind_eq_some_iff.mp H
     obtain ⟨⟨t371, t372, t373, t374, t375⟩, A250, H⟩ := H
     have A25 := Aside0.mk A250; clear A250
     replace H := Option.bind_eq_some_iff.mp H
     obtain ⟨⟨t377, t378, t379, t380, t381⟩, A260, H⟩ := H
     have A26 := Aside0.mk A260; clear A260
     by_cases c27 : ((!(t355 == t363) || (!(t356 == t364) || (!(t357 == t365) || (!(t358 == t366))))) || (!(t359.toList == t367.toList) || (!(t360.toList == t368.toList)))) = true
     ·rw [if_pos c27] at H
      exact absurd H (by simp)
     ·rw [if_neg c27] at H
      have c27b0 : ((!(t355 == t363) || (!(t356 == t364) || (!(t357 == t365) || (!(t358 == t366))))) || (!(t359.toList == t367.toList) || (!(t360.toList == t368.toList)))) = false := by simpa using c27
      clear c27
      by_cases c28 : t361 = t369
      ·rw [if_pos c28] at H
       have c28b0 : (t361 == t369) = true := beq_iff_eq.mpr c28
       have c28b1 : (t361 != t369) = false := bne_eq_false_iff_eq.mpr c28
       clear c28
       by_cases c29 : (!(t371 == t377) || (!(t372 == t378) || (!(t373 == t379) || (!(t374 == t380))))) = true
       ·rw [if_pos c29] at H
        exact absurd H (by simp)
       ·rw [if_neg c29] at H
        have c29b0 : (!(t371 == t377) || (!(t372 == t378) || (!(t373 == t379) || (!(t374 == t380))))) = false := by simpa using c29
        clear c29
        by_cases c30 : t375 = t381
        ·rw [if_pos c30] at H
         have c30b0 : (t375 == t381) = true := beq_iff_eq.mpr c30
         have c30b1 : (t375 != t381) = false := bne_eq_false_iff_eq.mpr c30
         clear c30
         by_cases c31 : t361 = 0
         ·rw [if_pos c31] at H
          have c31b0 : (t361 == 0) = true := beq_iff_eq.mpr c31
          have c31b1 : (t361 != 0) = false := bne_eq_false_iff_eq.mpr c31
          clear c31
          replace H := Option.bind_eq_some_iff.mp H
          obtain ⟨t383, A320, H⟩ := H
          have A32 := Aside0.mk A320; clear A320
          by_cases c33 : t383 = true
          ·subst c33
           have H1 : (if t371 = 0 then (if t372 ≥ 0 then (if t372 ≤ 3 then (if t373 ≥ 0 then (if t373 ≤ 2 then (if t374 ≥ 0 then (some (decide (t374 ≤ 1))) else (none)) else (none)) else (none)) else (none)) else (none)) else (none)) = some r := by rw [if_pos rfl] at H; exact H
           clear H; have H := H1; clear H1
           by_cases c34 : t371 = 0
           ·rw [if_pos c34] at H
            have c34b0 : (t371 == 0) = true := beq_iff_eq.mpr c34
            have c34b1 : (t371 != 0) = false := bne_eq_false_iff_eq.mpr c34
            clear c34
            by_cases c35 : t372 ≥ 0
            ·rw [if_pos c35] at H
             have c35b0 : decide (0 ≤ t372) = true := decide_eq_true c35
             clear c35
             by_cases c36 : t372 ≤ 3
             ·rw [if_pos c36] at H
              have c36b0 : decide (t372 ≤ 3) = true := decide_eq_true c36
              clear c36
              by_cases c37 : t373 ≥ 0
              ·rw [if_pos c37] at H
               have c37b0 : decide (0 ≤ t373) = true := decide_eq_true c37
               clear c37
               by_cases c38 : t373 ≤ 2
               ·rw [if_pos c38] at H
                have c38b0 : decide (t373 ≤ 2) = true := decide_eq_true c38
                clear c38
                by_cases c39 : t374 ≥ 0
                ·rw [if_pos c39] at H
                 have c39b0 : decide (0 ≤ t374) = true := decide_eq_true c39
                 clear c39
                 obtain rfl := Option.some.inj H
                 have hnb40 := NB348_349.out; have hnc40 := NB349_348.out; obtain ⟨hcz41_0, hcz41_1, hcz41_2, hcz41_3, hcz41_4, hcz41_5⟩ := c6 BK348.out; obtain ⟨hfz41_0, hfz41_1, hfz41_2, hfz41_3, hfz41_4, hfz41_5⟩ := f6 BK348.out; obtain ⟨hcz42_0, hcz42_1, hcz42_2, hcz42_3, hcz42_4, hcz42_5⟩ := c6 BK349.out; obtain ⟨hfz42_0, hfz42_1, hfz42_2, hfz42_3, hfz42_4, hfz42_5⟩ := f6 BK349.out
                 go_wp2_with (first | ((with_reducible refine gate_callee (f := 17) rfl ?_); refine goesL_ (some 30) rfl rfl Tryd.func17 (by kernel_rfl) rfl #[.agg #[.int .i64 a0_0, .int .i64 a0_1, .int .i64 a0_2, .int .i64 a0_3, .string a0_4, .string a0_5], .agg #[.int .i64 a1_0, .int .i64 a1_1, .int .i64 a1_2, .int .i64 a1_3, .string a1_4, .string a1_5]] rfl (by (try simp only [List.map_toArray, List.map_cons, List.map_nil]); first | done | rfl | (simp only [List.length_drop, List.length_take]; rfl)) ?_; (with_reducible refine (weld_Join.calls kj4 a0_0 a0_1 a0_2 a0_3 a0_4 a0_5 a1_0 a1_1 a1_2 a1_3 a1_4 a1_5 t355 t356 t357 t358 t359 t360 t361 _ ?side1 A23.out).mono ?_); (case side1 => first | (with_reducible exact HG.out) | exact Glob.Globs_below HG.out (by repeat (first | (with_reducible first | exact HB.out | apply below_alloc | apply pw_below_drewN | apply below_drew1 | refine below_set ?_ GE348.out | refine below_set ?_ GE349.out) | exact HB.out))); rintro e w43 ⟨rfl, hb⟩; refine ⟨_, rfl, ?_⟩; have n0_ := Aside0.mk (blk_below (pl BK348.out) hb); have n1_ := Aside0.mk (blk_below (pl BK349.out) hb); have n2_ := Aside0.mk (below_step (by repeat (first | (with_reducible first | exact HB.out | apply below_alloc | apply pw_below_drewN | apply below_drew1 | refine below_set ?_ GE348.out | refine below_set ?_ GE349.out) | exact HB.out)) hb); clear BK348; clear BK349; clear HB; have BK348 := n0_; have BK349 := n1_; have HB := n2_; clear n0_ n1_ n2_; (try clear hb); (try clear hb2); (try clear hk); (try clear hi)) | ((with_reducible refine gate_dst (N := 5) rfl ?_); refine box_event ?hg (N := 5) ?hd (cs := #[.int .i64 0, .int .i64 0, .int .i64 0, .int .i64 0, .string (⟨#[]⟩ : ByteArray), .string (⟨#[]⟩ : ByteArray)]) (t := 26) ?hr ?_; (case hd => rfl); (case hg => rfl); (case hr => first | (go_simp; done) | (go_simp; rfl)); intro gb362 hg w44 hbox hb; have n0_ := Aside0.mk (blk_below (pl BK348.out) hb); have n1_ := Aside0.mk (blk_below (pl BK349.out) hb); have n2_ := Aside0.mk (below_step (by repeat (first | (with_reducible first | exact HB.out | apply below_alloc | apply pw_below_drewN | apply below_drew1 | refine below_set ?_ GE348.out | refine below_set ?_ GE349.out) | exact HB.out)) hb); have n3_ := Aside0.mk (hbox); have n4_ := Aside0.mk ((by rw [hg]; exact (below_size (by repeat (first | (with_reducible first | exact HB.out | apply below_alloc | apply pw_below_drewN | apply below_drew1 | refine below_set ?_ GE348.out | refine below_set ?_ GE349.out) | exact HB.out))) : w.heap.size ≤ gb362)); have n5_ := Aside0.mk ((by rw [hg]; exact (below_size (by repeat (first | (with_reducible first | exact HB.out | apply below_alloc | apply pw_below_drewN | apply below_drew1 | refine below_set ?_ GE348.out | refine below_set ?_ GE349.out) | exact HB.out))) : w.heap.size ≤ gb362)); have n6_ := Aside0.mk ((by rw [hg]; exact Nat.ne_of_lt (blk_lt (pl BK348.out)) : gb348 ≠ gb362)); have n7_ := Aside0.mk ((by rw [hg]; exact Nat.ne_of_gt (blk_lt (pl BK348.out)) : gb362 ≠ gb348)); have n8_ := Aside0.mk ((by rw [hg]; exact Nat.ne_of_lt (blk_lt (pl BK349.out)) : gb349 ≠ gb362)); have n9_ := Aside0.mk ((by rw [hg]; exact Nat.ne_of_gt (blk_lt (pl BK349.out)) : gb362 ≠ gb349)); clear BK348; clear BK349; clear HB; have BK348 := n0_; have BK349 := n1_; have HB := n2_; have BK362 := n3_; have GW362 := n4_; have GE362 := n5_; have NB348_362 := n6_; have NB362_348 := n7_; have NB349_362 := n8_; have NB362_349 := n9_; clear n0_ n1_ n2_ n3_ n4_ n5_ n6_ n7_ n8_ n9_; clear hb hbox hg; have hnb45 := NB362_348.out; have hnc45 := NB348_362.out; have hnb46 := NB362_349.out; have hnc46 := NB349_362.out; obtain ⟨hcz47_0, hcz47_1, hcz47_2, hcz47_3, hcz47_4, hcz47_5⟩ := c6 BK362.out; obtain ⟨hfz47_0, hfz47_1, hfz47_2, hfz47_3, hfz47_4, hfz47_5⟩ := f6 BK362.out; obtain ⟨hcz48_0, hcz48_1, hcz48_2, hcz48_3, hcz48_4, hcz48_5⟩ := c6 BK348.out; obtain ⟨hfz48_0, hfz48_1, hfz48_2, hfz48_3, hfz48_4, hfz48_5⟩ := f6 BK348.out; obtain ⟨hcz49_0, hcz49_1, hcz49_2, hcz49_3, hcz49_4, hcz49_5⟩ := c6 BK349.out; obtain ⟨hfz49_0, hfz49_1, hfz49_2, hfz49_3, hfz49_4, hfz49_5⟩ := f6 BK349.out) | ((with_reducible refine gate_callee (f := 18) rfl ?_); refine goesL_ (some 36) rfl rfl Tryd.func18 (by kernel_rfl) rfl #[.agg #[.int .i64 a0_0, .int .i64 a0_1, .int .i64 a0_2, .int .i64 a0_3, .string a0_4, .string a0_5], .agg #[.int .i64 a1_0, .int .i64 a1_1, .int .i64 a1_2, .int .i64 a1_3, .string a1_4, .string a1_5]] rfl (by (try simp only [List.map_toArray, List.map_cons, List.map_nil]); first | done | rfl | (simp only [List.length_drop, List.length_take]; rfl)) ?_; (with_reducible refine (galleyref05_Join.calls kj4 a0_0 a0_1 a0_2 a0_3 a0_4 a0_5 a1_0 a1_1 a1_2 a1_3 a1_4 a1_5 t363 t364 t365 t366 t367 t368 t369 _ A24.out).mono ?_); rintro e w50 ⟨rfl, hb⟩; refine ⟨_, rfl, ?_⟩; have n0_ := Aside0.mk (blk_below (g := gb348) (o := .cells #[.int .i64 a0_0, .int .i64 a0_1, .int .i64 a0_2, .int .i64 a0_3, .string a0_4, .string a0_5] 26 (0, 0)) (by refine pl ?_; refine blk_far ?_ NB348_362.out _; refine pl ?_; refine blk_far ?_ NB348_362.out _; refine pl ?_; refine blk_far ?_ NB348_362.out _; refine pl ?_; refine blk_far ?_ NB348_362.out _; refine pl ?_; refine blk_far ?_ NB348_362.out _; refine pl ?_; refine blk_far ?_ NB348_362.out _; refine pl ?_; exact BK348.out) hb); have n1_ := Aside0.mk (blk_below (g := gb349) (o := .cells #[.int .i64 a1_0, .int .i64 a1_1, .int .i64 a1_2, .int .i64 a1_3, .string a1_4, .string a1_5] 26 (0, 0)) (by refine pl ?_; refine blk_far ?_ NB349_362.out _; refine pl ?_; refine blk_far ?_ NB349_362.out _; refine pl ?_; refine blk_far ?_ NB349_362.out _; refine pl ?_; refine blk_far ?_ NB349_362.out _; refine pl ?_; refine blk_far ?_ NB349_362.out _; refine pl ?_; refine blk_far ?_ NB349_362.out _; refine pl ?_; exact BK349.out) hb); have n2_ := Aside0.mk (blk_below (g := gb362) (o := .cells #[.int .i64 t355, .int .i64 t356, .int .i64 t357, .int .i64 t358, .string t359, .string t360] 26 (0, 0)) (by refine pl ?_; refine blk_put (cs := #[.int .i64 t355, .int .i64 t356, .int .i64 t357, .int .i64 t358, .string t359, .string (⟨#[]⟩ : ByteArray)]) ?_ 5 _ rfl; refine pl ?_; refine blk_put (cs := #[.int .i64 t355, .int .i64 t356, .int .i64 t357, .int .i64 t358, .string (⟨#[]⟩ : ByteArray), .string (⟨#[]⟩ : ByteArray)]) ?_ 4 _ rfl; refine pl ?_; refine blk_put (cs := #[.int .i64 t355, .int .i64 t356, .int .i64 t357, .int .i64 0, .string (⟨#[]⟩ : ByteArray), .string (⟨#[]⟩ : ByteArray)]) ?_ 3 _ rfl; refine pl ?_; refine blk_put (cs := #[.int .i64 t355, .int .i64 t356, .int .i64 0, .int .i64 0, .string (⟨#[]⟩ : ByteArray), .string (⟨#[]⟩ : ByteArray)]) ?_ 2 _ rfl; refine pl ?_; refine blk_put (cs := #[.int .i64 t355, .int .i64 0, .int .i64 0, .int .i64 0, .string (⟨#[]⟩ : ByteArray), .string (⟨#[]⟩ : ByteArray)]) ?_ 1 _ rfl; refine pl ?_; refine blk_put (cs := #[.int .i64 0, .int .i64 0, .int .i64 0, .int .i64 0, .string (⟨#[]⟩ : ByteArray), .string (⟨#[]⟩ : ByteArray)]) ?_ 0 _ rfl; refine pl ?_; exact BK362.out) hb); have n3_ := Aside0.mk (below_step (by repeat (first | (with_reducible first | exact HB.out | apply below_alloc | apply pw_below_drewN | apply below_drew1 | refine below_set ?_ GE348.out | refine below_set ?_ GE349.out | refine below_set ?_ GE362.out) | exact HB.out)) hb); clear BK348; clear BK349; clear BK362; clear HB; have BK348 := n0_; have BK349 := n1_; have BK362 := n2_; have HB := n3_; clear n0_ n1_ n2_ n3_; (try clear hb); (try clear hb2); (try clear hk); (try clear hi)) | ((with_reducible refine gate_dst (N := 7) rfl ?_); refine box_event ?hg (N := 7) ?hd (cs := #[.int .i64 0, .int .i64 0, .int .i64 0, .int .i64 0, .string (⟨#[]⟩ : ByteArray), .string (⟨#[]⟩ : ByteArray)]) (t := 26) ?hr ?_; (case hd => rfl); (case hg => rfl); (case hr => first | (go_simp; done) | (go_simp; rfl)); intro gb370 hg w51 hbox hb; have n0_ := Aside0.mk (blk_below (pl BK348.out) hb); have n1_ := Aside0.mk (blk_below (pl BK349.out) hb); have n2_ := Aside0.mk (blk_below (pl BK362.out) hb); have n3_ := Aside0.mk (below_step (by repeat (first | (with_reducible first | exact HB.out | apply below_alloc | apply pw_below_drewN | apply below_drew1 | refine below_set ?_ GE348.out | refine below_set ?_ GE349.out | refine below_set ?_ GE362.out) | exact HB.out)) hb); have n4_ := Aside0.mk (hbox); have n5_ := Aside0.mk ((by rw [hg]; exact (below_size (by repeat (first | (with_reducible first | exact HB.out | apply below_alloc | apply pw_below_drewN | apply below_drew1 | refine below_set ?_ GE348.out | refine below_set ?_ GE349.out | refine below_set ?_ GE362.out) | exact HB.out))) : w.heap.size ≤ gb370)); have n6_ := Aside0.mk ((by rw [hg]; exact (below_size (by repeat (first | (with_reducible first | exact HB.out | apply below_alloc | apply pw_below_drewN | apply below_drew1 | refine below_set ?_ GE348.out | refine below_set ?_ GE349.out | refine below_set ?_ GE362.out) | exact HB.out))) : w.heap.size ≤ gb370)); have n7_ := Aside0.mk ((by rw [hg]; exact Nat.ne_of_lt (blk_lt (pl BK348.out)) : gb348 ≠ gb370)); have n8_ := Aside0.mk ((by rw [hg]; exact Nat.ne_of_gt (blk_lt (pl BK348.out)) : gb370 ≠ gb348)); have n9_ := Aside0.mk ((by rw [hg]; exact Nat.ne_of_lt (blk_lt (pl BK349.out)) : gb349 ≠ gb370)); have n10_ := Aside0.mk ((by rw [hg]; exact Nat.ne_of_gt (blk_lt (pl BK349.out)) : gb370 ≠ gb349)); have n11_ := Aside0.mk ((by rw [hg]; exact Nat.ne_of_lt (blk_lt (pl BK362.out)) : gb362 ≠ gb370)); have n12_ := Aside0.mk ((by rw [hg]; exact Nat.ne_of_gt (blk_lt (pl BK362.out)) : gb370 ≠ gb362)); clear BK348; clear BK349; clear BK362; clear HB; have BK348 := n0_; have BK349 := n1_; have BK362 := n2_; have HB := n3_; have BK370 := n4_; have GW370 := n5_; have GE370 := n6_; have NB348_370 := n7_; have NB370_348 := n8_; have NB349_370 := n9_; have NB370_349 := n10_; have NB362_370 := n11_; have NB370_362 := n12_; clear n0_ n1_ n2_ n3_ n4_ n5_ n6_ n7_ n8_ n9_ n10_ n11_ n12_; clear hb hbox hg; have hnb52 := NB370_348.out; have hnc52 := NB348_370.out; have hnb53 := NB370_349.out; have hnc53 := NB349_370.out; have hnb54 := NB370_362.out; have hnc54 := NB362_370.out; obtain ⟨hcz55_0, hcz55_1, hcz55_2, hcz55_3, hcz55_4, hcz55_5⟩ := c6 BK370.out; obtain ⟨hfz55_0, hfz55_1, hfz55_2, hfz55_3, hfz55_4, hfz55_5⟩ := f6 BK370.out; obtain ⟨hcz56_0, hcz56_1, hcz56_2, hcz56_3, hcz56_4, hcz56_5⟩ := c6 BK348.out; obtain ⟨hfz56_0, hfz56_1, hfz56_2, hfz56_3, hfz56_4, hfz56_5⟩ := f6 BK348.out; obtain ⟨hcz57_0, hcz57_1, hcz57_2, hcz57_3, hcz57_4, hcz57_5⟩ := c6 BK349.out; obtain ⟨hfz57_0, hfz57_1, hfz57_2, hfz57_3, hfz57_4, hfz57_5⟩ := f6 BK349.out) | ((with_reducible refine gate_callee (f := 19) rfl ?_); refine goesL_ (some 42) rfl rfl Tryd.func19 (by kernel_rfl) rfl #[.agg #[.int .i64 a0_0, .int .i64 a0_1, .int .i64 a0_2, .int .i64 a0_3, .string a0_4, .string a0_5], .agg #[.int .i64 a1_0, .int .i64 a1_1, .int .i64 a1_2, .int .i64 a1_3, .string a1_4, .string a1_5]] rfl (by (try simp only [List.map_toArray, List.map_cons, List.map_nil]); first | done | rfl | (simp only [List.length_drop, List.length_take]; rfl)) ?_; (with_reducible refine (weld_Seam.calls kj4 a0_0 a0_1 a0_2 a0_3 a0_4 a0_5 a1_0 a1_1 a1_2 a1_3 a1_4 a1_5 t371 t372 t373 t374 t375 _ ?side1 A25.out).mono ?_); (case side1 => first | (with_reducible exact HG.out) | exact Glob.Globs_below HG.out (by repeat (first | (with_reducible first | exact HB.out | apply below_alloc | apply pw_below_drewN | apply below_drew1 | refine below_set ?_ GE348.out | refine below_set ?_ GE349.out | refine below_set ?_ GE362.out | refine below_set ?_ GE370.out) | exact HB.out))); rintro e w58 ⟨rfl, hb⟩; refine ⟨_, rfl, ?_⟩; have n0_ := Aside0.mk (blk_below (g := gb348) (o := .cells #[.int .i64 a0_0, .int .i64 a0_1, .int .i64 a0_2, .int .i64 a0_3, .string a0_4, .string a0_5] 26 (0, 0)) (by refine pl ?_; refine blk_far ?_ NB348_370.out _; refine pl ?_; refine blk_far ?_ NB348_370.out _; refine pl ?_; refine blk_far ?_ NB348_370.out _; refine pl ?_; refine blk_far ?_ NB348_370.out _; refine pl ?_; refine blk_far ?_ NB348_370.out _; refine pl ?_; refine blk_far ?_ NB348_370.out _; refine pl ?_; exact BK348.out) hb); have n1_ := Aside0.mk (blk_below (g := gb349) (o := .cells #[.int .i64 a1_0, .int .i64 a1_1, .int .i64 a1_2, .int .i64 a1_3, .string a1_4, .string a1_5] 26 (0, 0)) (by refine pl ?_; refine blk_far ?_ NB349_370.out _; refine pl ?_; refine blk_far ?_ NB349_370.out _; refine pl ?_; refine blk_far ?_ NB349_370.out _; refine pl ?_; refine blk_far ?_ NB349_370.out _; refine pl ?_; refine blk_far ?_ NB349_370.out _; refine pl ?_; refine blk_far ?_ NB349_370.out _; refine pl ?_; exact BK349.out) hb); have n2_ := Aside0.mk (blk_below (g := gb362) (o := .cells #[.int .i64 t355, .int .i64 t356, .int .i64 t357, .int .i64 t358, .string t359, .string t360] 26 (0, 0)) (by refine pl ?_; refine blk_far ?_ NB362_370.out _; refine pl ?_; refine blk_far ?_ NB362_370.out _; refine pl ?_; refine blk_far ?_ NB362_370.out _; refine pl ?_; refine blk_far ?_ NB362_370.out _; refine pl ?_; refine blk_far ?_ NB362_370.out _; refine pl ?_; refine blk_far ?_ NB362_370.out _; refine pl ?_; exact BK362.out) hb); have n3_ := Aside0.mk (blk_below (g := gb370) (o := .cells #[.int .i64 t363, .int .i64 t364, .int .i64 t365, .int .i64 t366, .string t367, .string t368] 26 (0, 0)) (by refine pl ?_; refine blk_put (cs := #[.int .i64 t363, .int .i64 t364, .int .i64 t365, .int .i64 t366, .string t367, .string (⟨#[]⟩ : ByteArray)]) ?_ 5 _ rfl; refine pl ?_; refine blk_put (cs := #[.int .i64 t363, .int .i64 t364, .int .i64 t365, .int .i64 t366, .string (⟨#[]⟩ : ByteArray), .string (⟨#[]⟩ : ByteArray)]) ?_ 4 _ rfl; refine pl ?_; refine blk_put (cs := #[.int .i64 t363, .int .i64 t364, .int .i64 t365, .int .i64 0, .string (⟨#[]⟩ : ByteArray), .string (⟨#[]⟩ : ByteArray)]) ?_ 3 _ rfl; refine pl ?_; refine blk_put (cs := #[.int .i64 t363, .int .i64 t364, .int .i64 0, .int .i64 0, .string (⟨#[]⟩ : ByteArray), .string (⟨#[]⟩ : ByteArray)]) ?_ 2 _ rfl; refine pl ?_; refine blk_put (cs := #[.int .i64 t363, .int .i64 0, .int .i64 0, .int .i64 0, .string (⟨#[]⟩ : ByteArray), .string (⟨#[]⟩ : ByteArray)]) ?_ 1 _ rfl; refine pl ?_; refine blk_put (cs := #[.int .i64 0, .int .i64 0, .int .i64 0, .int .i64 0, .string (⟨#[]⟩ : ByteArray), .string (⟨#[]⟩ : ByteArray)]) ?_ 0 _ rfl; refine pl ?_; exact BK370.out) hb); have n4_ := Aside0.mk (below_step (by repeat (first | (with_reducible first | exact HB.out | apply below_alloc | apply pw_below_drewN | apply below_drew1 | refine below_set ?_ GE348.out | refine below_set ?_ GE349.out | refine below_set ?_ GE362.out | refine below_set ?_ GE370.out) | exact HB.out)) hb); clear BK348; clear BK349; clear BK362; clear BK370; clear HB; have BK348 := n0_; have BK349 := n1_; have BK362 := n2_; have BK370 := n3_; have HB := n4_; clear n0_ n1_ n2_ n3_ n4_; (try clear hb); (try clear hb2); (try clear hk); (try clear hi)) | ((with_reducible refine gate_dst (N := 9) rfl ?_); refine box_event ?hg (N := 9) ?hd (cs := #[.int .i64 0, .int .i64 0, .int .i64 0, .int .i64 0]) (t := 24) ?hr ?_; (case hd => rfl); (case hg => rfl); (case hr => first | (go_simp; done) | (go_simp; rfl)); intro gb376 hg w59 hbox hb; have n0_ := Aside0.mk (blk_below (pl BK348.out) hb); have n1_ := Aside0.mk (blk_below (pl BK349.out) hb); have n2_ := Aside0.mk (blk_below (pl BK362.out) hb); have n3_ := Aside0.mk (blk_below (pl BK370.out) hb); have n4_ := Aside0.mk (below_step (by repeat (first | (with_reducible first | exact HB.out | apply below_alloc | apply pw_below_drewN | apply below_drew1 | refine below_set ?_ GE348.out | refine below_set ?_ GE349.out | refine below_set ?_ GE362.out | refine below_set ?_ GE370.out) | exact HB.out)) hb); have n5_ := Aside0.mk (hbox); have n6_ := Aside0.mk ((by rw [hg]; exact (below_size (by repeat (first | (with_reducible first | exact HB.out | apply below_alloc | apply pw_below_drewN | apply below_drew1 | refine below_set ?_ GE348.out | refine below_set ?_ GE349.out | refine below_set ?_ GE362.out | refine below_set ?_ GE370.out) | exact HB.out))) : w.heap.size ≤ gb376)); have n7_ := Aside0.mk ((by rw [hg]; exact (below_size (by repeat (first | (with_reducible first | exact HB.out | apply below_alloc | apply pw_below_drewN | apply below_drew1 | refine below_set ?_ GE348.out | refine below_set ?_ GE349.out | refine below_set ?_ GE362.out | refine below_set ?_ GE370.out) | exact HB.out))) : w.heap.size ≤ gb376)); have n8_ := Aside0.mk ((by rw [hg]; exact Nat.ne_of_lt (blk_lt (pl BK348.out)) : gb348 ≠ gb376)); have n9_ := Aside0.mk ((by rw [hg]; exact Nat.ne_of_gt (blk_lt (pl BK348.out)) : gb376 ≠ gb348)); have n10_ := Aside0.mk ((by rw [hg]; exact Nat.ne_of_lt (blk_lt (pl BK349.out)) : gb349 ≠ gb376)); have n11_ := Aside0.mk ((by rw [hg]; exact Nat.ne_of_gt (blk_lt (pl BK349.out)) : gb376 ≠ gb349)); have n12_ := Aside0.mk ((by rw [hg]; exact Nat.ne_of_lt (blk_lt (pl BK362.out)) : gb362 ≠ gb376)); have n13_ := Aside0.mk ((by rw [hg]; exact Nat.ne_of_gt (blk_lt (pl BK362.out)) : gb376 ≠ gb362)); have n14_ := Aside0.mk ((by rw [hg]; exact Nat.ne_of_lt (blk_lt (pl BK370.out)) : gb370 ≠ gb376)); have n15_ := Aside0.mk ((by rw [hg]; exact Nat.ne_of_gt (blk_lt (pl BK370.out)) : gb376 ≠ gb370)); clear BK348; clear BK349; clear BK362; clear BK370; clear HB; have BK348 := n0_; have BK349 := n1_; have BK362 := n2_; have BK370 := n3_; have HB := n4_; have BK376 := n5_; have GW376 := n6_; have GE376 := n7_; have NB348_376 := n8_; have NB376_348 := n9_; have NB349_376 := n10_; have NB376_349 := n11_; have NB362_376 := n12_; have NB376_362 := n13_; have NB370_376 := n14_; have NB376_370 := n15_; clear n0_ n1_ n2_ n3_ n4_ n5_ n6_ n7_ n8_ n9_ n10_ n11_ n12_ n13_ n14_ n15_; clear hb hbox hg; have hnb60 := NB376_348.out; have hnc60 := NB348_376.out; have hnb61 := NB376_349.out; have hnc61 := NB349_376.out; have hnb62 := NB376_362.out; have hnc62 := NB362_376.out; have hnb63 := NB376_370.out; have hnc63 := NB370_376.out; obtain ⟨hcz64_0, hcz64_1, hcz64_2, hcz64_3⟩ := Go.Proofs.YtaojbcplmdjfnaaDoorW.PrintWords.c4 BK376.out; obtain ⟨hfz64_0, hfz64_1, hfz64_2, hfz64_3⟩ := f4 BK376.out; obtain ⟨hcz65_0, hcz65_1, hcz65_2, hcz65_3, hcz65_4, hcz65_5⟩ := c6 BK348.out; obtain ⟨hfz65_0, hfz65_1, hfz65_2, hfz65_3, hfz65_4, hfz65_5⟩ := f6 BK348.out; obtain ⟨hcz66_0, hcz66_1, hcz66_2, hcz66_3, hcz66_4, hcz66_5⟩ := c6 BK349.out; obtain ⟨hfz66_0, hfz66_1, hfz66_2, hfz66_3, hfz66_4, hfz66_5⟩ := f6 BK349.out) | ((with_reducible refine gate_callee (f := 20) rfl ?_); refine goesL_ (some 48) rfl rfl Tryd.func20 (by kernel_rfl) rfl #[.agg #[.int .i64 a0_0, .int .i64 a0_1, .int .i64 a0_2, .int .i64 a0_3, .string a0_4, .string a0_5], .agg #[.int .i64 a1_0, .int .i64 a1_1, .int .i64 a1_2, .int .i64 a1_3, .string a1_4, .string a1_5]] rfl (by (try simp only [List.map_toArray, List.map_cons, List.map_nil]); first | done | rfl | (simp only [List.length_drop, List.length_take]; rfl)) ?_; (with_reducible refine (galleyref05_Seam.calls kj4 a0_0 a0_1 a0_2 a0_3 a0_4 a0_5 a1_0 a1_1 a1_2 a1_3 a1_4 a1_5 t377 t378 t379 t380 t381 _ A26.out).mono ?_); rintro e w67 ⟨rfl, hb⟩; refine ⟨_, rfl, ?_⟩; have n0_ := Aside0.mk (blk_below (g := gb348) (o := .cells #[.int .i64 a0_0, .int .i64 a0_1, .int .i64 a0_2, .int .i64 a0_3, .string a0_4, .string a0_5] 26 (0, 0)) (by refine pl ?_; refine blk_far ?_ NB348_376.out _; refine pl ?_; refine blk_far ?_ NB348_376.out _; refine pl ?_; refine blk_far ?_ NB348_376.out _; refine pl ?_; refine blk_far ?_ NB348_376.out _; refine pl ?_; exact BK348.out) hb); have n1_ := Aside0.mk (blk_below (g := gb349) (o := .cells #[.int .i64 a1_0, .int .i64 a1_1, .int .i64 a1_2, .int .i64 a1_3, .string a1_4, .string a1_5] 26 (0, 0)) (by refine pl ?_; refine blk_far ?_ NB349_376.out _; refine pl ?_; refine blk_far ?_ NB349_376.out _; refine pl ?_; refine blk_far ?_ NB349_376.out _; refine pl ?_; refine blk_far ?_ NB349_376.out _; refine pl ?_; exact BK349.out) hb); have n2_ := Aside0.mk (blk_below (g := gb362) (o := .cells #[.int .i64 t355, .int .i64 t356, .int .i64 t357, .int .i64 t358, .string t359, .string t360] 26 (0, 0)) (by refine pl ?_; refine blk_far ?_ NB362_376.out _; refine pl ?_; refine blk_far ?_ NB362_376.out _; refine pl ?_; refine blk_far ?_ NB362_376.out _; refine pl ?_; refine blk_far ?_ NB362_376.out _; refine pl ?_; exact BK362.out) hb); have n3_ := Aside0.mk (blk_below (g := gb370) (o := .cells #[.int .i64 t363, .int .i64 t364, .int .i64 t365, .int .i64 t366, .string t367, .string t368] 26 (0, 0)) (by refine pl ?_; refine blk_far ?_ NB370_376.out _; refine pl ?_; refine blk_far ?_ NB370_376.out _; refine pl ?_; refine blk_far ?_ NB370_376.out _; refine pl ?_; refine blk_far ?_ NB370_376.out _; refine pl ?_; exact BK370.out) hb); have n4_ := Aside0.mk (blk_below (g := gb376) (o := .cells #[.int .i64 t371, .int .i64 t372, .int .i64 t373, .int .i64 t374] 24 (0, 0)) (by refine pl ?_; refine blk_put (cs := #[.int .i64 t371, .int .i64 t372, .int .i64 t373, .int .i64 0]) ?_ 3 _ rfl; refine pl ?_; refine blk_put (cs := #[.int .i64 t371, .int .i64 t372, .int .i64 0, .int .i64 0]) ?_ 2 _ rfl; refine pl ?_; refine blk_put (cs := #[.int .i64 t371, .int .i64 0, .int .i64 0, .int .i64 0]) ?_ 1 _ rfl; refine pl ?_; refine blk_put (cs := #[.int .i64 0, .int .i64 0, .int .i64 0, .int .i64 0]) ?_ 0 _ rfl; refine pl ?_; exact BK376.out) hb); have n5_ := Aside0.mk (below_step (by repeat (first | (with_reducible first | exact HB.out | apply below_alloc | apply pw_below_drewN | apply below_drew1 | refine below_set ?_ GE348.out | refine below_set ?_ GE349.out | refine below_set ?_ GE362.out | refine below_set ?_ GE370.out | refine below_set ?_ GE376.out) | exact HB.out)) hb); clear BK348; clear BK349; clear BK362; clear BK370; clear BK376; clear HB; have BK348 := n0_; have BK349 := n1_; have BK362 := n2_; have BK370 := n3_; have BK376 := n4_; have HB := n5_; clear n0_ n1_ n2_ n3_ n4_ n5_; (try clear hb); (try clear hb2); (try clear hk); (try clear hi)) | ((with_reducible refine gate_dst (N := 11) rfl ?_); refine box_event ?hg (N := 11) ?hd (cs := #[.int .i64 0, .int .i64 0, .int .i64 0, .int .i64 0]) (t := 24) ?hr ?_; (case hd => rfl); (case hg => rfl); (case hr => first | (go_simp; done) | (go_simp; rfl)); intro gb382 hg w68 hbox hb; have n0_ := Aside0.mk (blk_below (pl BK348.out) hb); have n1_ := Aside0.mk (blk_below (pl BK349.out) hb); have n2_ := Aside0.mk (blk_below (pl BK362.out) hb); have n3_ := Aside0.mk (blk_below (pl BK370.out) hb); have n4_ := Aside0.mk (blk_below (pl BK376.out) hb); have n5_ := Aside0.mk (below_step (by repeat (first | (with_reducible first | exact HB.out | apply below_alloc | apply pw_below_drewN | apply below_drew1 | refine below_set ?_ GE348.out | refine below_set ?_ GE349.out | refine below_set ?_ GE362.out | refine below_set ?_ GE370.out | refine below_set ?_ GE376.out) | exact HB.out)) hb); have n6_ := Aside0.mk (hbox); have n7_ := Aside0.mk ((by rw [hg]; exact (below_size (by repeat (first | (with_reducible first | exact HB.out | apply below_alloc | apply pw_below_drewN | apply below_drew1 | refine below_set ?_ GE348.out | refine below_set ?_ GE349.out | refine below_set ?_ GE362.out | refine below_set ?_ GE370.out | refine below_set ?_ GE376.out) | exact HB.out))) : w.heap.size ≤ gb382)); have n8_ := Aside0.mk ((by rw [hg]; exact (below_size (by repeat (first | (with_reducible first | exact HB.out | apply below_alloc | apply pw_below_drewN | apply below_drew1 | refine below_set ?_ GE348.out | refine below_set ?_ GE349.out | refine below_set ?_ GE362.out | refine below_set ?_ GE370.out | refine below_set ?_ GE376.out) | exact HB.out))) : w.heap.size ≤ gb382)); have n9_ := Aside0.mk ((by rw [hg]; exact Nat.ne_of_lt (blk_lt (pl BK348.out)) : gb348 ≠ gb382)); have n10_ := Aside0.mk ((by rw [hg]; exact Nat.ne_of_gt (blk_lt (pl BK348.out)) : gb382 ≠ gb348)); have n11_ := Aside0.mk ((by rw [hg]; exact Nat.ne_of_lt (blk_lt (pl BK349.out)) : gb349 ≠ gb382)); have n12_ := Aside0.mk ((by rw [hg]; exact Nat.ne_of_gt (blk_lt (pl BK349.out)) : gb382 ≠ gb349)); have n13_ := Aside0.mk ((by rw [hg]; exact Nat.ne_of_lt (blk_lt (pl BK362.out)) : gb362 ≠ gb382)); have n14_ := Aside0.mk ((by rw [hg]; exact Nat.ne_of_gt (blk_lt (pl BK362.out)) : gb382 ≠ gb362)); have n15_ := Aside0.mk ((by rw [hg]; exact Nat.ne_of_lt (blk_lt (pl BK370.out)) : gb370 ≠ gb382)); have n16_ := Aside0.mk ((by rw [hg]; exact Nat.ne_of_gt (blk_lt (pl BK370.out)) : gb382 ≠ gb370)); have n17_ := Aside0.mk ((by rw [hg]; exact Nat.ne_of_lt (blk_lt (pl BK376.out)) : gb376 ≠ gb382)); have n18_ := Aside0.mk ((by rw [hg]; exact Nat.ne_of_gt (blk_lt (pl BK376.out)) : gb382 ≠ gb376)); clear BK348; clear BK349; clear BK362; clear BK370; clear BK376; clear HB; have BK348 := n0_; have BK349 := n1_; have BK362 := n2_; have BK370 := n3_; have BK376 := n4_; have HB := n5_; have BK382 := n6_; have GW382 := n7_; have GE382 := n8_; have NB348_382 := n9_; have NB382_348 := n10_; have NB349_382 := n11_; have NB382_349 := n12_; have NB362_382 := n13_; have NB382_362 := n14_; have NB370_382 := n15_; have NB382_370 := n16_; have NB376_382 := n17_; have NB382_376 := n18_; clear n0_ n1_ n2_ n3_ n4_ n5_ n6_ n7_ n8_ n9_ n10_ n11_ n12_ n13_ n14_ n15_ n16_ n17_ n18_; clear hb hbox hg; have hnb69 := NB382_348.out; have hnc69 := NB348_382.out; have hnb70 := NB382_349.out; have hnc70 := NB349_382.out; have hnb71 := NB382_362.out; have hnc71 := NB362_382.out; have hnb72 := NB382_370.out; have hnc72 := NB370_382.out; have hnb73 := NB382_376.out; have hnc73 := NB376_382.out; obtain ⟨hcz74_0, hcz74_1, hcz74_2, hcz74_3⟩ := Go.Proofs.YtaojbcplmdjfnaaDoorW.PrintWords.c4 BK382.out; obtain ⟨hfz74_0, hfz74_1, hfz74_2, hfz74_3⟩ := f4 BK382.out; obtain ⟨hcz75_0, hcz75_1, hcz75_2, hcz75_3, hcz75_4, hcz75_5⟩ := c6 BK362.out; obtain ⟨hfz75_0, hfz75_1, hfz75_2, hfz75_3, hfz75_4, hfz75_5⟩ := f6 BK362.out; obtain ⟨hcz76_0, hcz76_1, hcz76_2, hcz76_3, hcz76_4, hcz76_5⟩ := c6 BK370.out; obtain ⟨hfz76_0, hfz76_1, hfz76_2, hfz76_3, hfz76_4, hfz76_5⟩ := f6 BK370.out; obtain ⟨hcz77_0, hcz77_1, hcz77_2, hcz77_3⟩ := Go.Proofs.YtaojbcplmdjfnaaDoorW.PrintWords.c4 BK376.out; obtain ⟨hfz77_0, hfz77_1, hfz77_2, hfz77_3⟩ := f4 BK376.out) | (go_at_call 11; (with_reducible refine (weld_Valid.calls kj4 t355 t356 t357 t358 t359 t360 true _ ?side1 A32.out).mono ?_); (case side1 => first | (with_reducible exact HG.out) | exact Glob.Globs_below HG.out (by repeat (first | (with_reducible first | exact HB.out | apply below_alloc | apply pw_below_drewN | apply below_drew1 | refine below_set ?_ GE348.out | refine below_set ?_ GE349.out | refine below_set ?_ GE362.out | refine below_set ?_ GE370.out | refine below_set ?_ GE376.out | refine below_set ?_ GE382.out) | exact HB.out))); rintro e w78 ⟨rfl, hb⟩; have n0_ := Aside0.mk (blk_below (g := gb348) (o := .cells #[.int .i64 a0_0, .int .i64 a0_1, .int .i64 a0_2, .int .i64 a0_3, .string a0_4, .string a0_5] 26 (0, 0)) (by refine pl ?_; refine blk_far ?_ NB348_382.out _; refine pl ?_; refine blk_far ?_ NB348_382.out _; refine pl ?_; refine blk_far ?_ NB348_382.out _; refine pl ?_; refine blk_far ?_ NB348_382.out _; refine pl ?_; exact BK348.out) hb); have n1_ := Aside0.mk (blk_below (g := gb349) (o := .cells #[.int .i64 a1_0, .int .i64 a1_1, .int .i64 a1_2, .int .i64 a1_3, .string a1_4, .string a1_5] 26 (0, 0)) (by refine pl ?_; refine blk_far ?_ NB349_382.out _; refine pl ?_; refine blk_far ?_ NB349_382.out _; refine pl ?_; refine blk_far ?_ NB349_382.out _; refine pl ?_; refine blk_far ?_ NB349_382.out _; refine pl ?_; exact BK349.out) hb); have n2_ := Aside0.mk (blk_below (g := gb362) (o := .cells #[.int .i64 t355, .int .i64 t356, .int .i64 t357, .int .i64 t358, .string t359, .string t360] 26 (0, 0)) (by refine pl ?_; refine blk_far ?_ NB362_382.out _; refine pl ?_; refine blk_far ?_ NB362_382.out _; refine pl ?_; refine blk_far ?_ NB362_382.out _; refine pl ?_; refine blk_far ?_ NB362_382.out _; refine pl ?_; exact BK362.out) hb); have n3_ := Aside0.mk (blk_below (g := gb370) (o := .cells #[.int .i64 t363, .int .i64 t364, .int .i64 t365, .int .i64 t366, .string t367, .string t368] 26 (0, 0)) (by refine pl ?_; refine blk_far ?_ NB370_382.out _; refine pl ?_; refine blk_far ?_ NB370_382.out _; refine pl ?_; refine blk_far ?_ NB370_382.out _; refine pl ?_; refine blk_far ?_ NB370_382.out _; refine pl ?_; exact BK370.out) hb); have n4_ := Aside0.mk (blk_below (g := gb376) (o := .cells #[.int .i64 t371, .int .i64 t372, .int .i64 t373, .int .i64 t374] 24 (0, 0)) (by refine pl ?_; refine blk_far ?_ NB376_382.out _; refine pl ?_; refine blk_far ?_ NB376_382.out _; refine pl ?_; refine blk_far ?_ NB376_382.out _; refine pl ?_; refine blk_far ?_ NB376_382.out _; refine pl ?_; exact BK376.out) hb); have n5_ := Aside0.mk (blk_below (g := gb382) (o := .cells #[.int .i64 t377, .int .i64 t378, .int .i64 t379, .int .i64 t380] 24 (0, 0)) (by refine pl ?_; refine blk_put (cs := #[.int .i64 t377, .int .i64 t378, .int .i64 t379, .int .i64 0]) ?_ 3 _ rfl; refine pl ?_; refine blk_put (cs := #[.int .i64 t377, .int .i64 t378, .int .i64 0, .int .i64 0]) ?_ 2 _ rfl; refine pl ?_; refine blk_put (cs := #[.int .i64 t377, .int .i64 0, .int .i64 0, .int .i64 0]) ?_ 1 _ rfl; refine pl ?_; refine blk_put (cs := #[.int .i64 0, .int .i64 0, .int .i64 0, .int .i64 0]) ?_ 0 _ rfl; refine pl ?_; exact BK382.out) hb); have n6_ := Aside0.mk (below_step (by repeat (first | (with_reducible first | exact HB.out | apply below_alloc | apply pw_below_drewN | apply below_drew1 | refine below_set ?_ GE348.out | refine below_set ?_ GE349.out | refine below_set ?_ GE362.out | refine below_set ?_ GE370.out | refine below_set ?_ GE376.out | refine below_set ?_ GE382.out) | exact HB.out)) hb); clear BK348; clear BK349; clear BK362; clear BK370; clear BK376; clear BK382; clear HB; have BK348 := n0_; have BK349 := n1_; have BK362 := n2_; have BK370 := n3_; have BK376 := n4_; have BK382 := n5_; have HB := n6_; clear n0_ n1_ n2_ n3_ n4_ n5_ n6_; (try clear hb); (try clear hb2); (try clear hk); (try clear hi); obtain ⟨hcz79_0, hcz79_1, hcz79_2, hcz79_3⟩ := Go.Proofs.YtaojbcplmdjfnaaDoorW.PrintWords.c4 BK376.out; obtain ⟨hfz79_0, hfz79_1, hfz79_2, hfz79_3⟩ := f4 BK376.out))
                 go_ret
                 exact ⟨by first | rfl | (simp [errW_none, errW_some] <;> rfl) | (simp [*, errW_none, errW_some] <;> rfl), by repeat (first | (with_reducible first | exact HB.out | apply below_alloc | apply pw_below_drewN | apply below_drew1 | refine below_set ?_ GE348.out | refine below_set ?_ GE349.out | refine below_set ?_ GE362.out | refine below_set ?_ GE370.out | refine below_set ?_ GE376.out | refine below_set ?_ GE382.out) | exact HB.out)⟩
                ·rw [if_neg c39] at H
                 exact absurd H (by simp)
               ·rw [if_neg c38] at H
                exact absurd H (by simp)
              ·rw [if_neg c37] at H
               exact absurd H (by simp)
             ·rw [if_neg c36] at H
              exact absurd H (by simp)
            ·rw [if_neg c35] at H
             exact absurd H (by simp)
           ·rw [if_neg c34] at H
            exact absurd H (by simp)
          ·replace c33 := Bool.eq_false_iff.mpr c33
           subst c33
           have H1 : (none) = some r := by rw [if_neg (show ¬ (false = true) by decide)] at H; exact H
           clear H; have H := H1; clear H1
           exact absurd H (by simp)
         ·rw [if_neg c31] at H
          have c31b0 : (t361 == 0) = false := beq_eq_false_iff_ne.mpr c31
          have c31b1 : (t361 != 0) = true := bne_iff_ne.mpr c31
          obtain rfl := Option.some.inj H
          have hnb80 := NB348_349.out; have hnc80 := NB349_348.out; obtain ⟨hcz81_0, hcz81_1, hcz81_2, hcz81_3, hcz81_4, hcz81_5⟩ := c6 BK348.out; obtain ⟨hfz81_0, hfz81_1, hfz81_2, hfz81_3, hfz81_4, hfz81_5⟩ := f6 BK348.out; obtain ⟨hcz82_0, hcz82_1, hcz82_2, hcz82_3, hcz82_4, hcz82_5⟩ := c6 BK349.out; obtain ⟨hfz82_0, hfz82_1, hfz82_2, hfz82_3, hfz82_4, hfz82_5⟩ := f6 BK349.out
          go_wp2_with (first | ((with_reducible refine gate_callee (f := 17) rfl ?_); refine goesL_ (some 30) rfl rfl Tryd.func17 (by kernel_rfl) rfl #[.agg #[.int .i64 a0_0, .int .i64 a0_1, .int .i64 a0_2, .int .i64 a0_3, .string a0_4, .string a0_5], .agg #[.int .i64 a1_0, .int .i64 a1_1, .int .i64 a1_2, .int .i64 a1_3, .string a1_4, .string a1_5]] rfl (by (try simp only [List.map_toArray, List.map_cons, List.map_nil]); first | done | rfl | (simp only [List.length_drop, List.length_take]; rfl)) ?_; (with_reducible refine (weld_Join.calls kj4 a0_0 a0_1 a0_2 a0_3 a0_4 a0_5 a1_0 a1_1 a1_2 a1_3 a1_4 a1_5 t355 t356 t357 t358 t359 t360 t361 _ ?side1 A23.out).mono ?_); (case side1 => first | (with_reducible exact HG.out) | exact Glob.Globs_below HG.out (by repeat (first | (with_reducible first | exact HB.out | apply below_alloc | apply pw_below_drewN | apply below_drew1 | refine below_set ?_ GE348.out | refine below_set ?_ GE349.out) | exact HB.out))); rintro e w83 ⟨rfl, hb⟩; refine ⟨_, rfl, ?_⟩; have n0_ := Aside0.mk (blk_below (pl BK348.out) hb); have n1_ := Aside0.mk (blk_below (pl BK349.out) hb); have n2_ := Aside0.mk (below_step (by repeat (first | (with_reducible first | exact HB.out | apply below_alloc | apply pw_below_drewN | apply below_drew1 | refine below_set ?_ GE348.out | refine below_set ?_ GE349.out) | exact HB.out)) hb); clear BK348; clear BK349; clear HB; have BK348 := n0_; have BK349 := n1_; have HB := n2_; clear n0_ n1_ n2_; (try clear hb); (try clear hb2); (try clear hk); (try clear hi)) | ((with_reducible refine gate_dst (N := 5) rfl ?_); refine box_event ?hg (N := 5) ?hd (cs := #[.int .i64 0, .int .i64 0, .int .i64 0, .int .i64 0, .string (⟨#[]⟩ : ByteArray), .string (⟨#[]⟩ : ByteArray)]) (t := 26) ?hr ?_; (case hd => rfl); (case hg => rfl); (case hr => first | (go_simp; done) | (go_simp; rfl)); intro gb362 hg w84 hbox hb; have n0_ := Aside0.mk (blk_below (pl BK348.out) hb); have n1_ := Aside0.mk (blk_below (pl BK349.out) hb); have n2_ := Aside0.mk (below_step (by repeat (first | (with_reducible first | exact HB.out | apply below_alloc | apply pw_below_drewN | apply below_drew1 | refine below_set ?_ GE348.out | refine below_set ?_ GE349.out) | exact HB.out)) hb); have n3_ := Aside0.mk (hbox); have n4_ := Aside0.mk ((by rw [hg]; exact (below_size (by repeat (first | (with_reducible first | exact HB.out | apply below_alloc | apply pw_below_drewN | apply below_drew1 | refine below_set ?_ GE348.out | refine below_set ?_ GE349.out) | exact HB.out))) : w.heap.size ≤ gb362)); have n5_ := Aside0.mk ((by rw [hg]; exact (below_size (by repeat (first | (with_reducible first | exact HB.out | apply below_alloc | apply pw_below_drewN | apply below_drew1 | refine below_set ?_ GE348.out | refine below_set ?_ GE349.out) | exact HB.out))) : w.heap.size ≤ gb362)); have n6_ := Aside0.mk ((by rw [hg]; exact Nat.ne_of_lt (blk_lt (pl BK348.out)) : gb348 ≠ gb362)); have n7_ := Aside0.mk ((by rw [hg]; exact Nat.ne_of_gt (blk_lt (pl BK348.out)) : gb362 ≠ gb348)); have n8_ := Aside0.mk ((by rw [hg]; exact Nat.ne_of_lt (blk_lt (pl BK349.out)) : gb349 ≠ gb362)); have n9_ := Aside0.mk ((by rw [hg]; exact Nat.ne_of_gt (blk_lt (pl BK349.out)) : gb362 ≠ gb349)); clear BK348; clear BK349; clear HB; have BK348 := n0_; have BK349 := n1_; have HB := n2_; have BK362 := n3_; have GW362 := n4_; have GE362 := n5_; have NB348_362 := n6_; have NB362_348 := n7_; have NB349_362 := n8_; have NB362_349 := n9_; clear n0_ n1_ n2_ n3_ n4_ n5_ n6_ n7_ n8_ n9_; clear hb hbox hg; have hnb85 := NB362_348.out; have hnc85 := NB348_362.out; have hnb86 := NB362_349.out; have hnc86 := NB349_362.out; obtain ⟨hcz87_0, hcz87_1, hcz87_2, hcz87_3, hcz87_4, hcz87_5⟩ := c6 BK362.out; obtain ⟨hfz87_0, hfz87_1, hfz87_2, hfz87_3, hfz87_4, hfz87_5⟩ := f6 BK362.out; obtain ⟨hcz88_0, hcz88_1, hcz88_2, hcz88_3, hcz88_4, hcz88_5⟩ := c6 BK348.out; obtain ⟨hfz88_0, hfz88_1, hfz88_2, hfz88_3, hfz88_4, hfz88_5⟩ := f6 BK348.out; obtain ⟨hcz89_0, hcz89_1, hcz89_2, hcz89_3, hcz89_4, hcz89_5⟩ := c6 BK349.out; obtain ⟨hfz89_0, hfz89_1, hfz89_2, hfz89_3, hfz89_4, hfz89_5⟩ := f6 BK349.out) | ((with_reducible refine gate_callee (f := 18) rfl ?_); refine goesL_ (some 36) rfl rfl Tryd.func18 (by kernel_rfl) rfl #[.agg #[.int .i64 a0_0, .int .i64 a0_1, .int .i64 a0_2, .int .i64 a0_3, .string a0_4, .string a0_5], .agg #[.int .i64 a1_0, .int .i64 a1_1, .int .i64 a1_2, .int .i64 a1_3, .string a1_4, .string a1_5]] rfl (by (try simp only [List.map_toArray, List.map_cons, List.map_nil]); first | done | rfl | (simp only [List.length_drop, List.length_take]; rfl)) ?_; (with_reducible refine (galleyref05_Join.calls kj4 a0_0 a0_1 a0_2 a0_3 a0_4 a0_5 a1_0 a1_1 a1_2 a1_3 a1_4 a1_5 t363 t364 t365 t366 t367 t368 t369 _ A24.out).mono ?_); rintro e w90 ⟨rfl, hb⟩; refine ⟨_, rfl, ?_⟩; have n0_ := Aside0.mk (blk_below (g := gb348) (o := .cells #[.int .i64 a0_0, .int .i64 a0_1, .int .i64 a0_2, .int .i64 a0_3, .string a0_4, .string a0_5] 26 (0, 0)) (by refine pl ?_; refine blk_far ?_ NB348_362.out _; refine pl ?_; refine blk_far ?_ NB348_362.out _; refine pl ?_; refine blk_far ?_ NB348_362.out _; refine pl ?_; refine blk_far ?_ NB348_362.out _; refine pl ?_; refine blk_far ?_ NB348_362.out _; refine pl ?_; refine blk_far ?_ NB348_362.out _; refine pl ?_; exact BK348.out) hb); have n1_ := Aside0.mk (blk_below (g := gb349) (o := .cells #[.int .i64 a1_0, .int .i64 a1_1, .int .i64 a1_2, .int .i64 a1_3, .string a1_4, .string a1_5] 26 (0, 0)) (by refine pl ?_; refine blk_far ?_ NB349_362.out _; refine pl ?_; refine blk_far ?_ NB349_362.out _; refine pl ?_; refine blk_far ?_ NB349_362.out _; refine pl ?_; refine blk_far ?_ NB349_362.out _; refine pl ?_; refine blk_far ?_ NB349_362.out _; refine pl ?_; refine blk_far ?_ NB349_362.out _; refine pl ?_; exact BK349.out) hb); have n2_ := Aside0.mk (blk_below (g := gb362) (o := .cells #[.int .i64 t355, .int .i64 t356, .int .i64 t357, .int .i64 t358, .string t359, .string t360] 26 (0, 0)) (by refine pl ?_; refine blk_put (cs := #[.int .i64 t355, .int .i64 t356, .int .i64 t357, .int .i64 t358, .string t359, .string (⟨#[]⟩ : ByteArray)]) ?_ 5 _ rfl; refine pl ?_; refine blk_put (cs := #[.int .i64 t355, .int .i64 t356, .int .i64 t357, .int .i64 t358, .string (⟨#[]⟩ : ByteArray), .string (⟨#[]⟩ : ByteArray)]) ?_ 4 _ rfl; refine pl ?_; refine blk_put (cs := #[.int .i64 t355, .int .i64 t356, .int .i64 t357, .int .i64 0, .string (⟨#[]⟩ : ByteArray), .string (⟨#[]⟩ : ByteArray)]) ?_ 3 _ rfl; refine pl ?_; refine blk_put (cs := #[.int .i64 t355, .int .i64 t356, .int .i64 0, .int .i64 0, .string (⟨#[]⟩ : ByteArray), .string (⟨#[]⟩ : ByteArray)]) ?_ 2 _ rfl; refine pl ?_; refine blk_put (cs := #[.int .i64 t355, .int .i64 0, .int .i64 0, .int .i64 0, .string (⟨#[]⟩ : ByteArray), .string (⟨#[]⟩ : ByteArray)]) ?_ 1 _ rfl; refine pl ?_; refine blk_put (cs := #[.int .i64 0, .int .i64 0, .int .i64 0, .int .i64 0, .string (⟨#[]⟩ : ByteArray), .string (⟨#[]⟩ : ByteArray)]) ?_ 0 _ rfl; refine pl ?_; exact BK362.out) hb); have n3_ := Aside0.mk (below_step (by repeat (first | (with_reducible first | exact HB.out | apply below_alloc | apply pw_below_drewN | apply below_drew1 | refine below_set ?_ GE348.out | refine below_set ?_ GE349.out | refine below_set ?_ GE362.out) | exact HB.out)) hb); clear BK348; clear BK349; clear BK362; clear HB; have BK348 := n0_; have BK349 := n1_; have BK362 := n2_; have HB := n3_; clear n0_ n1_ n2_ n3_; (try clear hb); (try clear hb2); (try clear hk); (try clear hi)) | ((with_reducible refine gate_dst (N := 7) rfl ?_); refine box_event ?hg (N := 7) ?hd (cs := #[.int .i64 0, .int .i64 0, .int .i64 0, .int .i64 0, .string (⟨#[]⟩ : ByteArray), .string (⟨#[]⟩ : ByteArray)]) (t := 26) ?hr ?_; (case hd => rfl); (case hg => rfl); (case hr => first | (go_simp; done) | (go_simp; rfl)); intro gb370 hg w91 hbox hb; have n0_ := Aside0.mk (blk_below (pl BK348.out) hb); have n1_ := Aside0.mk (blk_below (pl BK349.out) hb); have n2_ := Aside0.mk (blk_below (pl BK362.out) hb); have n3_ := Aside0.mk (below_step (by repeat (first | (with_reducible first | exact HB.out | apply below_alloc | apply pw_below_drewN | apply below_drew1 | refine below_set ?_ GE348.out | refine below_set ?_ GE349.out | refine below_set ?_ GE362.out) | exact HB.out)) hb); have n4_ := Aside0.mk (hbox); have n5_ := Aside0.mk ((by rw [hg]; exact (below_size (by repeat (first | (with_reducible first | exact HB.out | apply below_alloc | apply pw_below_drewN | apply below_drew1 | refine below_set ?_ GE348.out | refine below_set ?_ GE349.out | refine below_set ?_ GE362.out) | exact HB.out))) : w.heap.size ≤ gb370)); have n6_ := Aside0.mk ((by rw [hg]; exact (below_size (by repeat (first | (with_reducible first | exact HB.out | apply below_alloc | apply pw_below_drewN | apply below_drew1 | refine below_set ?_ GE348.out | refine below_set ?_ GE349.out | refine below_set ?_ GE362.out) | exact HB.out))) : w.heap.size ≤ gb370)); have n7_ := Aside0.mk ((by rw [hg]; exact Nat.ne_of_lt (blk_lt (pl BK348.out)) : gb348 ≠ gb370)); have n8_ := Aside0.mk ((by rw [hg]; exact Nat.ne_of_gt (blk_lt (pl BK348.out)) : gb370 ≠ gb348)); have n9_ := Aside0.mk ((by rw [hg]; exact Nat.ne_of_lt (blk_lt (pl BK349.out)) : gb349 ≠ gb370)); have n10_ := Aside0.mk ((by rw [hg]; exact Nat.ne_of_gt (blk_lt (pl BK349.out)) : gb370 ≠ gb349)); have n11_ := Aside0.mk ((by rw [hg]; exact Nat.ne_of_lt (blk_lt (pl BK362.out)) : gb362 ≠ gb370)); have n12_ := Aside0.mk ((by rw [hg]; exact Nat.ne_of_gt (blk_lt (pl BK362.out)) : gb370 ≠ gb362)); clear BK348; clear BK349; clear BK362; clear HB; have BK348 := n0_; have BK349 := n1_; have BK362 := n2_; have HB := n3_; have BK370 := n4_; have GW370 := n5_; have GE370 := n6_; have NB348_370 := n7_; have NB370_348 := n8_; have NB349_370 := n9_; have NB370_349 := n10_; have NB362_370 := n11_; have NB370_362 := n12_; clear n0_ n1_ n2_ n3_ n4_ n5_ n6_ n7_ n8_ n9_ n10_ n11_ n12_; clear hb hbox hg; have hnb92 := NB370_348.out; have hnc92 := NB348_370.out; have hnb93 := NB370_349.out; have hnc93 := NB349_370.out; have hnb94 := NB370_362.out; have hnc94 := NB362_370.out; obtain ⟨hcz95_0, hcz95_1, hcz95_2, hcz95_3, hcz95_4, hcz95_5⟩ := c6 BK370.out; obtain ⟨hfz95_0, hfz95_1, hfz95_2, hfz95_3, hfz95_4, hfz95_5⟩ := f6 BK370.out; obtain ⟨hcz96_0, hcz96_1, hcz96_2, hcz96_3, hcz96_4, hcz96_5⟩ := c6 BK348.out; obtain ⟨hfz96_0, hfz96_1, hfz96_2, hfz96_3, hfz96_4, hfz96_5⟩ := f6 BK348.out; obtain ⟨hcz97_0, hcz97_1, hcz97_2, hcz97_3, hcz97_4, hcz97_5⟩ := c6 BK349.out; obtain ⟨hfz97_0, hfz97_1, hfz97_2, hfz97_3, hfz97_4, hfz97_5⟩ := f6 BK349.out) | ((with_reducible refine gate_callee (f := 19) rfl ?_); refine goesL_ (some 42) rfl rfl Tryd.func19 (by kernel_rfl) rfl #[.agg #[.int .i64 a0_0, .int .i64 a0_1, .int .i64 a0_2, .int .i64 a0_3, .string a0_4, .string a0_5], .agg #[.int .i64 a1_0, .int .i64 a1_1, .int .i64 a1_2, .int .i64 a1_3, .string a1_4, .string a1_5]] rfl (by (try simp only [List.map_toArray, List.map_cons, List.map_nil]); first | done | rfl | (simp only [List.length_drop, List.length_take]; rfl)) ?_; (with_reducible refine (weld_Seam.calls kj4 a0_0 a0_1 a0_2 a0_3 a0_4 a0_5 a1_0 a1_1 a1_2 a1_3 a1_4 a1_5 t371 t372 t373 t374 t375 _ ?side1 A25.out).mono ?_); (case side1 => first | (with_reducible exact HG.out) | exact Glob.Globs_below HG.out (by repeat (first | (with_reducible first | exact HB.out | apply below_alloc | apply pw_below_drewN | apply below_drew1 | refine below_set ?_ GE348.out | refine below_set ?_ GE349.out | refine below_set ?_ GE362.out | refine below_set ?_ GE370.out) | exact HB.out))); rintro e w98 ⟨rfl, hb⟩; refine ⟨_, rfl, ?_⟩; have n0_ := Aside0.mk (blk_below (g := gb348) (o := .cells #[.int .i64 a0_0, .int .i64 a0_1, .int .i64 a0_2, .int .i64 a0_3, .string a0_4, .string a0_5] 26 (0, 0)) (by refine pl ?_; refine blk_far ?_ NB348_370.out _; refine pl ?_; refine blk_far ?_ NB348_370.out _; refine pl ?_; refine blk_far ?_ NB348_370.out _; refine pl ?_; refine blk_far ?_ NB348_370.out _; refine pl ?_; refine blk_far ?_ NB348_370.out _; refine pl ?_; refine blk_far ?_ NB348_370.out _; refine pl ?_; exact BK348.out) hb); have n1_ := Aside0.mk (blk_below (g := gb349) (o := .cells #[.int .i64 a1_0, .int .i64 a1_1, .int .i64 a1_2, .int .i64 a1_3, .string a1_4, .string a1_5] 26 (0, 0)) (by refine pl ?_; refine blk_far ?_ NB349_370.out _; refine pl ?_; refine blk_far ?_ NB349_370.out _; refine pl ?_; refine blk_far ?_ NB349_370.out _; refine pl ?_; refine blk_far ?_ NB349_370.out _; refine pl ?_; refine blk_far ?_ NB349_370.out _; refine pl ?_; refine blk_far ?_ NB349_370.out _; refine pl ?_; exact BK349.out) hb); have n2_ := Aside0.mk (blk_below (g := gb362) (o := .cells #[.int .i64 t355, .int .i64 t356, .int .i64 t357, .int .i64 t358, .string t359, .string t360] 26 (0, 0)) (by refine pl ?_; refine blk_far ?_ NB362_370.out _; refine pl ?_; refine blk_far ?_ NB362_370.out _; refine pl ?_; refine blk_far ?_ NB362_370.out _; refine pl ?_; refine blk_far ?_ NB362_370.out _; refine pl ?_; refine blk_far ?_ NB362_370.out _; refine pl ?_; refine blk_far ?_ NB362_370.out _; refine pl ?_; exact BK362.out) hb); have n3_ := Aside0.mk (blk_below (g := gb370) (o := .cells #[.int .i64 t363, .int .i64 t364, .int .i64 t365, .int .i64 t366, .string t367, .string t368] 26 (0, 0)) (by refine pl ?_; refine blk_put (cs := #[.int .i64 t363, .int .i64 t364, .int .i64 t365, .int .i64 t366, .string t367, .string (⟨#[]⟩ : ByteArray)]) ?_ 5 _ rfl; refine pl ?_; refine blk_put (cs := #[.int .i64 t363, .int .i64 t364, .int .i64 t365, .int .i64 t366, .string (⟨#[]⟩ : ByteArray), .string (⟨#[]⟩ : ByteArray)]) ?_ 4 _ rfl; refine pl ?_; refine blk_put (cs := #[.int .i64 t363, .int .i64 t364, .int .i64 t365, .int .i64 0, .string (⟨#[]⟩ : ByteArray), .string (⟨#[]⟩ : ByteArray)]) ?_ 3 _ rfl; refine pl ?_; refine blk_put (cs := #[.int .i64 t363, .int .i64 t364, .int .i64 0, .int .i64 0, .string (⟨#[]⟩ : ByteArray), .string (⟨#[]⟩ : ByteArray)]) ?_ 2 _ rfl; refine pl ?_; refine blk_put (cs := #[.int .i64 t363, .int .i64 0, .int .i64 0, .int .i64 0, .string (⟨#[]⟩ : ByteArray), .string (⟨#[]⟩ : ByteArray)]) ?_ 1 _ rfl; refine pl ?_; refine blk_put (cs := #[.int .i64 0, .int .i64 0, .int .i64 0, .int .i64 0, .string (⟨#[]⟩ : ByteArray), .string (⟨#[]⟩ : ByteArray)]) ?_ 0 _ rfl; refine pl ?_; exact BK370.out) hb); have n4_ := Aside0.mk (below_step (by repeat (first | (with_reducible first | exact HB.out | apply below_alloc | apply pw_below_drewN | apply below_drew1 | refine below_set ?_ GE348.out | refine below_set ?_ GE349.out | refine below_set ?_ GE362.out | refine below_set ?_ GE370.out) | exact HB.out)) hb); clear BK348; clear BK349; clear BK362; clear BK370; clear HB; have BK348 := n0_; have BK349 := n1_; have BK362 := n2_; have BK370 := n3_; have HB := n4_; clear n0_ n1_ n2_ n3_ n4_; (try clear hb); (try clear hb2); (try clear hk); (try clear hi)) | ((with_reducible refine gate_dst (N := 9) rfl ?_); refine box_event ?hg (N := 9) ?hd (cs := #[.int .i64 0, .int .i64 0, .int .i64 0, .int .i64 0]) (t := 24) ?hr ?_; (case hd => rfl); (case hg => rfl); (case hr => first | (go_simp; done) | (go_simp; rfl)); intro gb376 hg w99 hbox hb; have n0_ := Aside0.mk (blk_below (pl BK348.out) hb); have n1_ := Aside0.mk (blk_below (pl BK349.out) hb); have n2_ := Aside0.mk (blk_below (pl BK362.out) hb); have n3_ := Aside0.mk (blk_below (pl BK370.out) hb); have n4_ := Aside0.mk (below_step (by repeat (first | (with_reducible first | exact HB.out | apply below_alloc | apply pw_below_drewN | apply below_drew1 | refine below_set ?_ GE348.out | refine below_set ?_ GE349.out | refine below_set ?_ GE362.out | refine below_set ?_ GE370.out) | exact HB.out)) hb); have n5_ := Aside0.mk (hbox); have n6_ := Aside0.mk ((by rw [hg]; exact (below_size (by repeat (first | (with_reducible first | exact HB.out | apply below_alloc | apply pw_below_drewN | apply below_drew1 | refine below_set ?_ GE348.out | refine below_set ?_ GE349.out | refine below_set ?_ GE362.out | refine below_set ?_ GE370.out) | exact HB.out))) : w.heap.size ≤ gb376)); have n7_ := Aside0.mk ((by rw [hg]; exact (below_size (by repeat (first | (with_reducible first | exact HB.out | apply below_alloc | apply pw_below_drewN | apply below_drew1 | refine below_set ?_ GE348.out | refine below_set ?_ GE349.out | refine below_set ?_ GE362.out | refine below_set ?_ GE370.out) | exact HB.out))) : w.heap.size ≤ gb376)); have n8_ := Aside0.mk ((by rw [hg]; exact Nat.ne_of_lt (blk_lt (pl BK348.out)) : gb348 ≠ gb376)); have n9_ := Aside0.mk ((by rw [hg]; exact Nat.ne_of_gt (blk_lt (pl BK348.out)) : gb376 ≠ gb348)); have n10_ := Aside0.mk ((by rw [hg]; exact Nat.ne_of_lt (blk_lt (pl BK349.out)) : gb349 ≠ gb376)); have n11_ := Aside0.mk ((by rw [hg]; exact Nat.ne_of_gt (blk_lt (pl BK349.out)) : gb376 ≠ gb349)); have n12_ := Aside0.mk ((by rw [hg]; exact Nat.ne_of_lt (blk_lt (pl BK362.out)) : gb362 ≠ gb376)); have n13_ := Aside0.mk ((by rw [hg]; exact Nat.ne_of_gt (blk_lt (pl BK362.out)) : gb376 ≠ gb362)); have n14_ := Aside0.mk ((by rw [hg]; exact Nat.ne_of_lt (blk_lt (pl BK370.out)) : gb370 ≠ gb376)); have n15_ := Aside0.mk ((by rw [hg]; exact Nat.ne_of_gt (blk_lt (pl BK370.out)) : gb376 ≠ gb370)); clear BK348; clear BK349; clear BK362; clear BK370; clear HB; have BK348 := n0_; have BK349 := n1_; have BK362 := n2_; have BK370 := n3_; have HB := n4_; have BK376 := n5_; have GW376 := n6_; have GE376 := n7_; have NB348_376 := n8_; have NB376_348 := n9_; have NB349_376 := n10_; have NB376_349 := n11_; have NB362_376 := n12_; have NB376_362 := n13_; have NB370_376 := n14_; have NB376_370 := n15_; clear n0_ n1_ n2_ n3_ n4_ n5_ n6_ n7_ n8_ n9_ n10_ n11_ n12_ n13_ n14_ n15_; clear hb hbox hg; have hnb100 := NB376_348.out; have hnc100 := NB348_376.out; have hnb101 := NB376_349.out; have hnc101 := NB349_376.out; have hnb102 := NB376_362.out; have hnc102 := NB362_376.out; have hnb103 := NB376_370.out; have hnc103 := NB370_376.out; obtain ⟨hcz104_0, hcz104_1, hcz104_2, hcz104_3⟩ := Go.Proofs.YtaojbcplmdjfnaaDoorW.PrintWords.c4 BK376.out; obtain ⟨hfz104_0, hfz104_1, hfz104_2, hfz104_3⟩ := f4 BK376.out; obtain ⟨hcz105_0, hcz105_1, hcz105_2, hcz105_3, hcz105_4, hcz105_5⟩ := c6 BK348.out; obtain ⟨hfz105_0, hfz105_1, hfz105_2, hfz105_3, hfz105_4, hfz105_5⟩ := f6 BK348.out; obtain ⟨hcz106_0, hcz106_1, hcz106_2, hcz106_3, hcz106_4, hcz106_5⟩ := c6 BK349.out; obtain ⟨hfz106_0, hfz106_1, hfz106_2, hfz106_3, hfz106_4, hfz106_5⟩ := f6 BK349.out) | ((with_reducible refine gate_callee (f := 20) rfl ?_); refine goesL_ (some 48) rfl rfl Tryd.func20 (by kernel_rfl) rfl #[.agg #[.int .i64 a0_0, .int .i64 a0_1, .int .i64 a0_2, .int .i64 a0_3, .string a0_4, .string a0_5], .agg #[.int .i64 a1_0, .int .i64 a1_1, .int .i64 a1_2, .int .i64 a1_3, .string a1_4, .string a1_5]] rfl (by (try simp only [List.map_toArray, List.map_cons, List.map_nil]); first | done | rfl | (simp only [List.length_drop, List.length_take]; rfl)) ?_; (with_reducible refine (galleyref05_Seam.calls kj4 a0_0 a0_1 a0_2 a0_3 a0_4 a0_5 a1_0 a1_1 a1_2 a1_3 a1_4 a1_5 t377 t378 t379 t380 t381 _ A26.out).mono ?_); rintro e w107 ⟨rfl, hb⟩; refine ⟨_, rfl, ?_⟩; have n0_ := Aside0.mk (blk_below (g := gb348) (o := .cells #[.int .i64 a0_0, .int .i64 a0_1, .int .i64 a0_2, .int .i64 a0_3, .string a0_4, .string a0_5] 26 (0, 0)) (by refine pl ?_; refine blk_far ?_ NB348_376.out _; refine pl ?_; refine blk_far ?_ NB348_376.out _; refine pl ?_; refine blk_far ?_ NB348_376.out _; refine pl ?_; refine blk_far ?_ NB348_376.out _; refine pl ?_; exact BK348.out) hb); have n1_ := Aside0.mk (blk_below (g := gb349) (o := .cells #[.int .i64 a1_0, .int .i64 a1_1, .int .i64 a1_2, .int .i64 a1_3, .string a1_4, .string a1_5] 26 (0, 0)) (by refine pl ?_; refine blk_far ?_ NB349_376.out _; refine pl ?_; refine blk_far ?_ NB349_376.out _; refine pl ?_; refine blk_far ?_ NB349_376.out _; refine pl ?_; refine blk_far ?_ NB349_376.out _; refine pl ?_; exact BK349.out) hb); have n2_ := Aside0.mk (blk_below (g := gb362) (o := .cells #[.int .i64 t355, .int .i64 t356, .int .i64 t357, .int .i64 t358, .string t359, .string t360] 26 (0, 0)) (by refine pl ?_; refine blk_far ?_ NB362_376.out _; refine pl ?_; refine blk_far ?_ NB362_376.out _; refine pl ?_; refine blk_far ?_ NB362_376.out _; refine pl ?_; refine blk_far ?_ NB362_376.out _; refine pl ?_; exact BK362.out) hb); have n3_ := Aside0.mk (blk_below (g := gb370) (o := .cells #[.int .i64 t363, .int .i64 t364, .int .i64 t365, .int .i64 t366, .string t367, .string t368] 26 (0, 0)) (by refine pl ?_; refine blk_far ?_ NB370_376.out _; refine pl ?_; refine blk_far ?_ NB370_376.out _; refine pl ?_; refine blk_far ?_ NB370_376.out _; refine pl ?_; refine blk_far ?_ NB370_376.out _; refine pl ?_; exact BK370.out) hb); have n4_ := Aside0.mk (blk_below (g := gb376) (o := .cells #[.int .i64 t371, .int .i64 t372, .int .i64 t373, .int .i64 t374] 24 (0, 0)) (by refine pl ?_; refine blk_put (cs := #[.int .i64 t371, .int .i64 t372, .int .i64 t373, .int .i64 0]) ?_ 3 _ rfl; refine pl ?_; refine blk_put (cs := #[.int .i64 t371, .int .i64 t372, .int .i64 0, .int .i64 0]) ?_ 2 _ rfl; refine pl ?_; refine blk_put (cs := #[.int .i64 t371, .int .i64 0, .int .i64 0, .int .i64 0]) ?_ 1 _ rfl; refine pl ?_; refine blk_put (cs := #[.int .i64 0, .int .i64 0, .int .i64 0, .int .i64 0]) ?_ 0 _ rfl; refine pl ?_; exact BK376.out) hb); have n5_ := Aside0.mk (below_step (by repeat (first | (with_reducible first | exact HB.out | apply below_alloc | apply pw_below_drewN | apply below_drew1 | refine below_set ?_ GE348.out | refine below_set ?_ GE349.out | refine below_set ?_ GE362.out | refine below_set ?_ GE370.out | refine below_set ?_ GE376.out) | exact HB.out)) hb); clear BK348; clear BK349; clear BK362; clear BK370; clear BK376; clear HB; have BK348 := n0_; have BK349 := n1_; have BK362 := n2_; have BK370 := n3_; have BK376 := n4_; have HB := n5_; clear n0_ n1_ n2_ n3_ n4_ n5_; (try clear hb); (try clear hb2); (try clear hk); (try clear hi)) | ((with_reducible refine gate_dst (N := 11) rfl ?_); refine box_event ?hg (N := 11) ?hd (cs := #[.int .i64 0, .int .i64 0, .int .i64 0, .int .i64 0]) (t := 24) ?hr ?_; (case hd => rfl); (case hg => rfl); (case hr => first | (go_simp; done) | (go_simp; rfl)); intro gb382 hg w108 hbox hb; have n0_ := Aside0.mk (blk_below (pl BK348.out) hb); have n1_ := Aside0.mk (blk_below (pl BK349.out) hb); have n2_ := Aside0.mk (blk_below (pl BK362.out) hb); have n3_ := Aside0.mk (blk_below (pl BK370.out) hb); have n4_ := Aside0.mk (blk_below (pl BK376.out) hb); have n5_ := Aside0.mk (below_step (by repeat (first | (with_reducible first | exact HB.out | apply below_alloc | apply pw_below_drewN | apply below_drew1 | refine below_set ?_ GE348.out | refine below_set ?_ GE349.out | refine below_set ?_ GE362.out | refine below_set ?_ GE370.out | refine below_set ?_ GE376.out) | exact HB.out)) hb); have n6_ := Aside0.mk (hbox); have n7_ := Aside0.mk ((by rw [hg]; exact (below_size (by repeat (first | (with_reducible first | exact HB.out | apply below_alloc | apply pw_below_drewN | apply below_drew1 | refine below_set ?_ GE348.out | refine below_set ?_ GE349.out | refine below_set ?_ GE362.out | refine below_set ?_ GE370.out | refine below_set ?_ GE376.out) | exact HB.out))) : w.heap.size ≤ gb382)); have n8_ := Aside0.mk ((by rw [hg]; exact (below_size (by repeat (first | (with_reducible first | exact HB.out | apply below_alloc | apply pw_below_drewN | apply below_drew1 | refine below_set ?_ GE348.out | refine below_set ?_ GE349.out | refine below_set ?_ GE362.out | refine below_set ?_ GE370.out | refine below_set ?_ GE376.out) | exact HB.out))) : w.heap.size ≤ gb382)); have n9_ := Aside0.mk ((by rw [hg]; exact Nat.ne_of_lt (blk_lt (pl BK348.out)) : gb348 ≠ gb382)); have n10_ := Aside0.mk ((by rw [hg]; exact Nat.ne_of_gt (blk_lt (pl BK348.out)) : gb382 ≠ gb348)); have n11_ := Aside0.mk ((by rw [hg]; exact Nat.ne_of_lt (blk_lt (pl BK349.out)) : gb349 ≠ gb382)); have n12_ := Aside0.mk ((by rw [hg]; exact Nat.ne_of_gt (blk_lt (pl BK349.out)) : gb382 ≠ gb349)); have n13_ := Aside0.mk ((by rw [hg]; exact Nat.ne_of_lt (blk_lt (pl BK362.out)) : gb362 ≠ gb382)); have n14_ := Aside0.mk ((by rw [hg]; exact Nat.ne_of_gt (blk_lt (pl BK362.out)) : gb382 ≠ gb362)); have n15_ := Aside0.mk ((by rw [hg]; exact Nat.ne_of_lt (blk_lt (pl BK370.out)) : gb370 ≠ gb382)); have n16_ := Aside0.mk ((by rw [hg]; exact Nat.ne_of_gt (blk_lt (pl BK370.out)) : gb382 ≠ gb370)); have n17_ := Aside0.mk ((by rw [hg]; exact Nat.ne_of_lt (blk_lt (pl BK376.out)) : gb376 ≠ gb382)); have n18_ := Aside0.mk ((by rw [hg]; exact Nat.ne_of_gt (blk_lt (pl BK376.out)) : gb382 ≠ gb376)); clear BK348; clear BK349; clear BK362; clear BK370; clear BK376; clear HB; have BK348 := n0_; have BK349 := n1_; have BK362 := n2_; have BK370 := n3_; have BK376 := n4_; have HB := n5_; have BK382 := n6_; have GW382 := n7_; have GE382 := n8_; have NB348_382 := n9_; have NB382_348 := n10_; have NB349_382 := n11_; have NB382_349 := n12_; have NB362_382 := n13_; have NB382_362 := n14_; have NB370_382 := n15_; have NB382_370 := n16_; have NB376_382 := n17_; have NB382_376 := n18_; clear n0_ n1_ n2_ n3_ n4_ n5_ n6_ n7_ n8_ n9_ n10_ n11_ n12_ n13_ n14_ n15_ n16_ n17_ n18_; clear hb hbox hg; have hnb109 := NB382_348.out; have hnc109 := NB348_382.out; have hnb110 := NB382_349.out; have hnc110 := NB349_382.out; have hnb111 := NB382_362.out; have hnc111 := NB362_382.out; have hnb112 := NB382_370.out; have hnc112 := NB370_382.out; have hnb113 := NB382_376.out; have hnc113 := NB376_382.out; obtain ⟨hcz114_0, hcz114_1, hcz114_2, hcz114_3⟩ := Go.Proofs.YtaojbcplmdjfnaaDoorW.PrintWords.c4 BK382.out; obtain ⟨hfz114_0, hfz114_1, hfz114_2, hfz114_3⟩ := f4 BK382.out; obtain ⟨hcz115_0, hcz115_1, hcz115_2, hcz115_3, hcz115_4, hcz115_5⟩ := c6 BK362.out; obtain ⟨hfz115_0, hfz115_1, hfz115_2, hfz115_3, hfz115_4, hfz115_5⟩ := f6 BK362.out; obtain ⟨hcz116_0, hcz116_1, hcz116_2, hcz116_3, hcz116_4, hcz116_5⟩ := c6 BK370.out; obtain ⟨hfz116_0, hfz116_1, hfz116_2, hfz116_3, hfz116_4, hfz116_5⟩ := f6 BK370.out; obtain ⟨hcz117_0, hcz117_1, hcz117_2, hcz117_3⟩ := Go.Proofs.YtaojbcplmdjfnaaDoorW.PrintWords.c4 BK376.out; obtain ⟨hfz117_0, hfz117_1, hfz117_2, hfz117_3⟩ := f4 BK376.out))
          go_ret
          exact ⟨by first | rfl | (simp [errW_none, errW_some] <;> rfl) | (simp [*, errW_none, errW_some] <;> rfl), by repeat (first | (with_reducible first | exact HB.out | apply below_alloc | apply pw_below_drewN | apply below_drew1 | refine below_set ?_ GE348.out | refine below_set ?_ GE349.out | refine below_set ?_ GE362.out | refine below_set ?_ GE370.out | refine below_set ?_ GE376.out | refine below_set ?_ GE382.out) | exact HB.out)⟩
        ·rw [if_neg c30] at H
         exact absurd H (by simp)
      ·rw [if_neg c28] at H
       exact absurd H (by simp)
 ·replace c4 := Bool.eq_false_iff.mpr c4
  subst c4
  have H1 : (none) = some r := by rw [if_neg (show ¬ (false = true) by decide)] at H; exact H
  clear H; have H := H1; clear H1
  exact absurd H (by simp)
end Go.Proofs.YtaojbcplmdjfnaaDoor.Pr

namespace Go.Proofs.YtaojbcplmdjfnaaDoor.PuSm
open Go.RowKit Go.Proofs.YtaojbcplmdjfnaaDoor.Pr Go.Proofs.YtaojbcplmdjfnaaDoor.Math Go.Proofs.YtaojbcplmdjfnaaDoor.Ev Go.Proofs.YtaojbcplmdjfnaaDoor.PuSz Go.Proofs.YtaojbcplmdjfnaaDoor.PuMs Go.Proofs.YtaojbcplmdjfnaaDoorW.PrintWords Go.Proofs.YtaojbcplmdjfnaaDoorW.PrintLast Go.Proofs.YtaojbcplmdjfnaaDoorW.PrintMore
set_option linter.unusedVariables false
set_option linter.unusedSimpArgs false
def uL (n : Nat) : Int := if n = 4 then 2 else 1
theorem uL_range (n : Nat) : 1 ≤ uL n ∧ uL n ≤ 2 := by unfold uL; split <;> omega
def swI (k L : Nat) (p : Int × Int) : Int × Int := if k < L then ((L : Int) - 1, (L : Int) - uL L) else p
theorem seamR_swI (A B : List Int) (k : Nat) (h1 : 1 ≤ k) (h2 : k ≤ A.length) : seamR (A.drop (A.length - k)) B = swI k (lg (A.drop (A.length - k) ++ B)) (seamR (A.drop (A.length - (k - 1))) B) := by
  have hd : A.drop (A.length - k) = A[A.length - k] :: A.drop (A.length - (k - 1)) := by
    rw [List.drop_eq_getElem_cons (show A.length - k < A.length by omega), show A.length - k + 1 = A.length - (k - 1) by omega]
  rw [hd, seamR]
  unfold swI uL
  have hl : (A.drop (A.length - (k - 1))).length + 1 = k := by rw [List.length_drop]; omega
  rw [hl]
theorem cut_lg (S B : List Int) (hS : 1 ≤ S.length) (j : Nat) (h1 : 1 ≤ j) (h2 : j ≤ B.length) : lg (S ++ B.take j) = S.length + j ↔ lg (S ++ B) = S.length + j := by
  have e : S ++ B = (S ++ B.take j) ++ B.drop j := by rw [List.append_assoc, List.take_append_drop]
  constructor
  · intro h
    rw [e, lg_append _ _ (by omega), h]
  · intro h
    rw [e] at h
    rw [lg_of_append (S ++ B.take j) (B.drop j) (by omega) (by rw [h, List.length_append, List.length_take]; omega), h]
theorem bt_bo (s : ByteArray) (i : Int) (h : i.toNat < s.size) : bt s i = (bytesOf s).getD i.toNat (-1) := by
  rw [← rd_bytesOf, rd_getD _ _ (by rw [bytesOf_length]; exact h)]
def cutS (A B : List Int) (k j : Nat) : List Int := A.drop (A.length - k) ++ B.take j
theorem cutS_len (A B : List Int) (k j : Nat) (h : k ≤ A.length) (h' : j ≤ B.length) : (cutS A B k j).length = k + j := by unfold cutS; rw [List.length_append, List.length_drop, List.length_take]; omega
theorem cutS_byt {A B : List Int} (hA : Byt A) (hB : Byt B) (k j : Nat) : Byt (cutS A B k j) := (hA.drop _).append (hB.take _)
theorem cutS_lg (A B : List Int) (k j : Nat) (h1 : 1 ≤ k) (h2 : k ≤ A.length) (h3 : 1 ≤ j) (h4 : j ≤ B.length) : lg (cutS A B k j) = k + j ↔ lg (A.drop (A.length - k) ++ B) = k + j := by
  have e : (A.drop (A.length - k)).length = k := by rw [List.length_drop]; omega
  have := cut_lg (A.drop (A.length - k)) B (by omega) j h3 h4
  rw [e] at this
  exact this
theorem cutS_ba (s t : ByteArray) (k j : Nat) (h : k ≤ s.size) : bytesOf (s.extract (((s.size - k : Nat) : Int)).toNat s.size ++ t.extract 0 ((j : Int)).toNat) = cutS (bytesOf s) (bytesOf t) k j := by
  rw [bo_append, Int.toNat_natCast, Int.toNat_natCast, ex_tail, bo_extract, List.drop_zero, Nat.sub_zero, bytesOf_length s |>.symm]
  rfl
section
variable (a0 a1 a2 a3 b0 b1 b2 b3 : Int) (aH aT bH bT : ByteArray)
theorem w_l1_next (k kk j : Nat) (z1 z2 : Int) (h1 : 1 ≤ kk) (h2 : kk ≤ aT.size) (h3 : 1 ≤ j) (h4 : j ≤ bH.size) (hs : aT.size ≤ 3) (ht : bH.size ≤ 3) :
    weld_seam.l1 (k + 10) kk j a0 a1 a2 a3 aH aT b0 b1 b2 b3 bH bT 0 z1 z2 0 =
      (if lg ((bytesOf aT).drop (aT.size - kk) ++ bytesOf bH) = kk + j then weld_seam.l1 (k + 9) kk ((j + 1 : Nat) : Int) a0 a1 a2 a3 aH aT b0 b1 b2 b3 bH bT 0 ((kk + j : Nat) - 1) ((kk + j : Nat) - uL (kk + j)) 0
       else weld_seam.l1 (k + 9) kk ((j + 1 : Nat) : Int) a0 a1 a2 a3 aH aT b0 b1 b2 b3 bH bT 0 z1 z2 0) := by
  have hB := bo_byt bH
  have hA := bo_byt aT
  have hl := cutS_len (bytesOf aT) (bytesOf bH) kk j (by rw [bytesOf_length]; exact h2) (by rw [bytesOf_length]; exact h4)
  have hne : cutS (bytesOf aT) (bytesOf bH) kk j ≠ [] := fun h => by rw [h] at hl; simp at hl; omega
  have hv := val_lg _ (cutS_byt hA hB kk j) hne
  have hc := cutS_lg (bytesOf aT) (bytesOf bH) kk j h1 (by rw [bytesOf_length]; exact h2) h3 (by rw [bytesOf_length]; exact h4)
  rw [bytesOf_length] at hc
  rw [hl, hc] at hv
  have e1 : wrap64 ((aT.size : Int) - (kk : Int)) = ((aT.size - kk : Nat) : Int) := by rw [w64 (by omega) (by omega)]; omega
  have e2 : wrap64 ((j : Int) + 1) = ((j + 1 : Nat) : Int) := by rw [w64 (by omega) (by omega)]; rfl
  have e3 : wrap64 ((kk : Int) + (j : Int)) = ((kk + j : Nat) : Int) := by rw [w64 (by omega) (by omega)]; omega
  have hcb := cutS_ba aT bH kk j h2
  have hvr := val_range (cutS (bytesOf aT) (bytesOf bH) kk j) (cutS_byt hA hB kk j)
  rw [weld_seam.l1, if_pos (by omega), e1, if_pos (by omega), if_pos (by omega), if_pos (by omega)]
  rw [if_pos (by rw [ByteArray.size_extract, ByteArray.size_extract]; omega), if_pos (by rw [← bytesOf_length, hcb, hl]; omega), hcb, o_Value k _ (cutS_byt hA hB kk j), Option.bind_some, e2, e3]
  by_cases hg : lg ((bytesOf aT).drop (aT.size - kk) ++ bytesOf bH) = kk + j
  · rw [if_pos hg, if_pos (hv.1.2 hg)]
    have hu : weld_units.f (val (cutS (bytesOf aT) (bytesOf bH) kk j)) = some (uL (kk + j)) := by
      unfold weld_units.f uL
      have h5 := hv.2 hg
      rw [hc.2 hg] at h5
      by_cases h6 : kk + j = 4
      · rw [if_pos (h5.2 h6), if_pos h6]
      · rw [if_neg (fun c => h6 (h5.1 c)), if_neg h6]
    have hur := uL_range (kk + j)
    rw [hu, Option.bind_some, w64 (n := ((kk + j : Nat) : Int) - 1) (by omega) (by omega), w64 (n := ((kk + j : Nat) : Int) - uL (kk + j)) (by omega) (by omega)]
  · rw [if_neg hg, if_neg (fun c => hg (hv.1.1 c))]
theorem w_l1_end (k kk j : Nat) (z1 z2 : Int) (h1 : kk ≤ 3) (h : bH.size < j) : weld_seam.l1 (k + 1) kk j a0 a1 a2 a3 aH aT b0 b1 b2 b3 bH bT 0 z1 z2 0 = weld_seam.l0 k ((kk + 1 : Nat) : Int) a0 a1 a2 a3 aH aT b0 b1 b2 b3 bH bT 0 z1 z2 0 := by
  rw [weld_seam.l1, if_neg (by omega), w64 (by omega) (by omega)]
  rfl
theorem w_l1 (kk : Nat) (h1 : 1 ≤ kk) (h2 : kk ≤ aT.size) (hs : aT.size ≤ 3) (ht : bH.size ≤ 3) (p : Int × Int) (L : Nat) (hL : lg ((bytesOf aT).drop (aT.size - kk) ++ bytesOf bH) = L) (d : Nat) :
    ∀ (k j : Nat) (z : Int × Int), 1 ≤ j → j + d = bH.size + 1 → z = (if kk < L ∧ L - kk < j then ((L : Int) - 1, (L : Int) - uL L) else p) →
      weld_seam.l1 (k + 10 + d) kk j a0 a1 a2 a3 aH aT b0 b1 b2 b3 bH bT 0 z.1 z.2 0 = weld_seam.l0 (k + 9) ((kk + 1 : Nat) : Int) a0 a1 a2 a3 aH aT b0 b1 b2 b3 bH bT 0 (swI kk L p).1 (swI kk L p).2 0 := by
  have hll : L ≤ kk + bH.size := by
    have := lg_len ((bytesOf aT).drop (aT.size - kk) ++ bytesOf bH)
    rw [hL, List.length_append, List.length_drop, bytesOf_length, bytesOf_length] at this
    omega
  induction d with
  | zero =>
    intro k j z hj hd hz
    rw [show k + 10 + 0 = (k + 9) + 1 from rfl, w_l1_end a0 a1 a2 a3 b0 b1 b2 b3 aH aT bH bT (k + 9) kk j z.1 z.2 (by omega) (by omega)]
    have : z = swI kk L p := by
      rw [hz]
      unfold swI
      by_cases h : kk < L
      · rw [if_pos ⟨h, by omega⟩, if_pos h]
      · rw [if_neg (fun c => h c.1), if_neg h]
    rw [this]
  | succ d ih =>
    intro k j z hj hd hz
    have hn := w_l1_next a0 a1 a2 a3 b0 b1 b2 b3 aH aT bH bT (k + d + 1) kk j z.1 z.2 h1 h2 hj (by omega) hs ht
    rw [show k + 10 + (d + 1) = k + d + 1 + 10 by omega, hn, hL]
    by_cases hg : L = kk + j
    · rw [if_pos hg, ← hg]
      have := ih k (j + 1) ((L : Int) - 1, (L : Int) - uL L) (by omega) (by omega) (by rw [if_pos ⟨by omega, by omega⟩])
      rw [show k + d + 1 + 9 = k + 10 + d by omega]
      exact this
    · rw [if_neg hg]
      have := ih k (j + 1) z (by omega) (by omega) (by
        rw [hz]
        by_cases h : kk < L ∧ L - kk < j
        · rw [if_pos h, if_pos ⟨h.1, by omega⟩]
        · rw [if_neg h, if_neg (fun c => h ⟨c.1, by omega⟩)])
      rw [show k + d + 1 + 9 = k + 10 + d by omega]
      exact this
theorem w_l0_end (k kk : Nat) (z1 z2 : Int) (h : aT.size < kk) (hs : aT.size ≤ 3) (ht : bH.size ≤ 3) : weld_seam.l0 (k + 1) kk a0 a1 a2 a3 aH aT b0 b1 b2 b3 bH bT 0 z1 z2 0 = some (0, z1, z2, seamE (bytesOf aT) (bytesOf bH)) := by
  rw [weld_seam.l0, if_neg (by omega)]
  unfold weld_tailIs.f seamE
  rw [bytesOf_length]
  by_cases ha : (aT.size : Int) > 0
  · have e : wrap64 ((aT.size : Int) - 1) = ((aT.size - 1 : Nat) : Int) := by rw [w64 (by omega) (by omega)]; omega
    rw [if_pos ha, e, if_pos (by omega), if_pos (by omega), Option.bind_some, bt_bo aT _ (by simp; omega)]
    simp only [Int.toNat_natCast, beq_iff_eq]
    by_cases h13 : (bytesOf aT).getD (aT.size - 1) (-1) = 13
    · rw [if_pos h13]
      by_cases hb : (bH.size : Int) > 0
      · rw [if_pos hb, if_pos (by omega), bt_bo bH _ (by simp; omega)]
        simp only [Int.toNat_zero]
        by_cases h10 : (bytesOf bH).getD 0 (-1) = 10
        · rw [if_pos h10, if_pos ⟨h13, h10⟩]
        · rw [if_neg h10, if_neg (fun c => h10 c.2)]
      · rw [if_neg hb, if_neg (fun c => by rw [getD_m1 _ 0 (by rw [bytesOf_length]; omega)] at c; omega)]
    · rw [if_neg h13, if_neg (fun c => h13 c.1)]
  · rw [if_neg ha, Option.bind_some, if_neg (by decide), if_neg (fun c => by rw [getD_m1 _ _ (by rw [bytesOf_length]; omega)] at c; omega)]
theorem w_l0 (hs : aT.size ≤ 3) (ht : bH.size ≤ 3) (d : Nat) : ∀ (k kk : Nat) (z : Int × Int), 1 ≤ kk → kk + d = aT.size + 1 → z = seamR ((bytesOf aT).drop (aT.size - (kk - 1))) (bytesOf bH) →
    weld_seam.l0 (k + 20 + 20 * d) kk a0 a1 a2 a3 aH aT b0 b1 b2 b3 bH bT 0 z.1 z.2 0 = some (0, (seamR (bytesOf aT) (bytesOf bH)).1, (seamR (bytesOf aT) (bytesOf bH)).2, seamE (bytesOf aT) (bytesOf bH)) := by
  induction d with
  | zero =>
    intro k kk z hk hd hz
    rw [show k + 20 + 20 * 0 = (k + 19) + 1 by omega, w_l0_end a0 a1 a2 a3 b0 b1 b2 b3 aH aT bH bT _ kk z.1 z.2 (by omega) hs ht, hz, show aT.size - (kk - 1) = 0 by omega, List.drop_zero]
  | succ d ih =>
    intro k kk z hk hd hz
    have hsw := seamR_swI (bytesOf aT) (bytesOf bH) kk hk (by rw [bytesOf_length]; omega)
    rw [bytesOf_length, ← hz] at hsw
    have h1 := w_l1 a0 a1 a2 a3 b0 b1 b2 b3 aH aT bH bT kk hk (by omega) hs ht z _ rfl bH.size (k + 20 + 20 * d + 9 - bH.size) 1 z (by omega) (by omega) (by rw [if_neg (by omega)])
    have h2 := ih (k + 18 - bH.size) (kk + 1) _ (by omega) (by omega) hsw.symm
    rw [show k + 20 + 20 * (d + 1) = (k + 20 + 20 * d + 9 - bH.size + 10 + bH.size) + 1 by omega, weld_seam.l0, if_pos (by omega)]
    rw [show (1 : Int) = ((1 : Nat) : Int) from rfl, h1, show k + 20 + 20 * d + 9 - bH.size + 9 = k + 18 - bH.size + 20 + 20 * d by omega]
    exact h2
theorem wSeam_eq (k : Nat) (hs : aT.size ≤ 3) (ht : bH.size ≤ 3) (hk : 80 ≤ k) : weld_seam.f k a0 a1 a2 a3 aH aT b0 b1 b2 b3 bH bT = some (0, (seamR (bytesOf aT) (bytesOf bH)).1, (seamR (bytesOf aT) (bytesOf bH)).2, seamE (bytesOf aT) (bytesOf bH)) := by
  unfold weld_seam.f
  have h := w_l0 a0 a1 a2 a3 b0 b1 b2 b3 aH aT bH bT hs ht aT.size (k - 20 - 20 * aT.size) 1 (0, 0) (by omega) (by omega) (by rw [Nat.sub_self, Nat.sub_zero, List.drop_of_length_le (by rw [bytesOf_length]; omega)]; rfl)
  rw [show k - 20 - 20 * aT.size + 20 + 20 * aT.size = k by omega] at h
  exact h
theorem r_l1_next (k kk j : Nat) (z1 z2 : Int) (h1 : 1 ≤ kk) (h2 : kk ≤ aT.size) (h3 : 1 ≤ j) (h4 : j ≤ bH.size) (hs : aT.size ≤ 3) (ht : bH.size ≤ 3) :
    galleyref05_seam.l1 (k + 10) kk j a0 a1 a2 a3 aH aT b0 b1 b2 b3 bH bT 0 z1 z2 0 =
      (if lg ((bytesOf aT).drop (aT.size - kk) ++ bytesOf bH) = kk + j then galleyref05_seam.l1 (k + 9) kk ((j + 1 : Nat) : Int) a0 a1 a2 a3 aH aT b0 b1 b2 b3 bH bT 0 ((kk + j : Nat) - 1) ((kk + j : Nat) - uL (kk + j)) 0
       else galleyref05_seam.l1 (k + 9) kk ((j + 1 : Nat) : Int) a0 a1 a2 a3 aH aT b0 b1 b2 b3 bH bT 0 z1 z2 0) := by
  have hB := bo_byt bH
  have hA := bo_byt aT
  have hl := cutS_len (bytesOf aT) (bytesOf bH) kk j (by rw [bytesOf_length]; exact h2) (by rw [bytesOf_length]; exact h4)
  have hne : cutS (bytesOf aT) (bytesOf bH) kk j ≠ [] := fun h => by rw [h] at hl; simp at hl; omega
  have hv := val_lg _ (cutS_byt hA hB kk j) hne
  have hc := cutS_lg (bytesOf aT) (bytesOf bH) kk j h1 (by rw [bytesOf_length]; exact h2) h3 (by rw [bytesOf_length]; exact h4)
  rw [bytesOf_length] at hc
  rw [hl, hc] at hv
  have e1 : wrap64 ((aT.size : Int) - (kk : Int)) = ((aT.size - kk : Nat) : Int) := by rw [w64 (by omega) (by omega)]; omega
  have e2 : wrap64 ((j : Int) + 1) = ((j + 1 : Nat) : Int) := by rw [w64 (by omega) (by omega)]; rfl
  have e3 : wrap64 ((kk : Int) + (j : Int)) = ((kk + j : Nat) : Int) := by rw [w64 (by omega) (by omega)]; omega
  have hcb := cutS_ba aT bH kk j h2
  have hS := cutS_byt hA hB kk j
  have hll : (cutS (bytesOf aT) (bytesOf bH) kk j).length ≤ 4294967296 := by rw [hl]; omega
  rw [galleyref05_seam.l1, if_pos (by omega), e1, if_pos (by omega), if_pos (by omega), if_pos (by omega)]
  rw [if_pos (by rw [ByteArray.size_extract, ByteArray.size_extract]; omega), if_pos (by rw [← bytesOf_length, hcb, hl]; omega), hcb, Option.bind_some]
  have hlg := long_eq (k + 6) _ hS (by omega) 0 (by omega)
  rw [Int.natCast_zero, List.drop_zero] at hlg
  rw [show k + 9 = k + 6 + 3 from rfl, hlg, Option.bind_some, e2, e3]
  by_cases hg : lg ((bytesOf aT).drop (aT.size - kk) ++ bytesOf bH) = kk + j
  · have hg' := hc.2 hg
    rw [if_pos hg, hg', if_pos rfl]
    have hof := of_eq (k + 2) _ hS hll 0 (by rw [hl]; omega)
    have hun := units_eq _ 0 (by rw [hl]; omega) hS (decide (lg ((cutS (bytesOf aT) (bytesOf bH) kk j).drop 0) ≠ 0))
    rw [Int.natCast_zero] at hof
    rw [show k + 6 + 3 = k + 2 + 7 by omega, hof, Option.bind_some]
    have hun2 : galleyref05_units.f (ru ((cutS (bytesOf aT) (bytesOf bH) kk j).drop 0)) ((wd ((cutS (bytesOf aT) (bytesOf bH) kk j).drop 0) : Nat) : Int) (decide (lg ((cutS (bytesOf aT) (bytesOf bH) kk j).drop 0) ≠ 0)) = some (uL (kk + j)) := by
      rw [hun, List.drop_zero, hg']; rfl
    have hur := uL_range (kk + j)
    rw [hun2, Option.bind_some, w64 (n := ((kk + j : Nat) : Int) - 1) (by omega) (by omega), w64 (n := ((kk + j : Nat) : Int) - uL (kk + j)) (by omega) (by omega)]
  · rw [if_neg hg, if_neg (fun c => hg (hc.1 (by omega)))]
theorem r_l1_end (k kk j : Nat) (z1 z2 : Int) (h1 : kk ≤ 3) (h : bH.size < j) : galleyref05_seam.l1 (k + 1) kk j a0 a1 a2 a3 aH aT b0 b1 b2 b3 bH bT 0 z1 z2 0 = galleyref05_seam.l0 k ((kk + 1 : Nat) : Int) a0 a1 a2 a3 aH aT b0 b1 b2 b3 bH bT 0 z1 z2 0 := by
  rw [galleyref05_seam.l1, if_neg (by omega), w64 (by omega) (by omega)]
  rfl
theorem r_l1 (kk : Nat) (h1 : 1 ≤ kk) (h2 : kk ≤ aT.size) (hs : aT.size ≤ 3) (ht : bH.size ≤ 3) (p : Int × Int) (L : Nat) (hL : lg ((bytesOf aT).drop (aT.size - kk) ++ bytesOf bH) = L) (d : Nat) :
    ∀ (k j : Nat) (z : Int × Int), 1 ≤ j → j + d = bH.size + 1 → z = (if kk < L ∧ L - kk < j then ((L : Int) - 1, (L : Int) - uL L) else p) →
      galleyref05_seam.l1 (k + 10 + d) kk j a0 a1 a2 a3 aH aT b0 b1 b2 b3 bH bT 0 z.1 z.2 0 = galleyref05_seam.l0 (k + 9) ((kk + 1 : Nat) : Int) a0 a1 a2 a3 aH aT b0 b1 b2 b3 bH bT 0 (swI kk L p).1 (swI kk L p).2 0 := by
  have hll : L ≤ kk + bH.size := by
    have := lg_len ((bytesOf aT).drop (aT.size - kk) ++ bytesOf bH)
    rw [hL, List.length_append, List.length_drop, bytesOf_length, bytesOf_length] at this
    omega
  induction d with
  | zero =>
    intro k j z hj hd hz
    rw [show k + 10 + 0 = (k + 9) + 1 from rfl, r_l1_end a0 a1 a2 a3 b0 b1 b2 b3 aH aT bH bT (k + 9) kk j z.1 z.2 (by omega) (by omega)]
    have : z = swI kk L p := by
      rw [hz]
      unfold swI
      by_cases h : kk < L
      · rw [if_pos ⟨h, by omega⟩, if_pos h]
      · rw [if_neg (fun c => h c.1), if_neg h]
    rw [this]
  | succ d ih =>
    intro k j z hj hd hz
    have hn := r_l1_next a0 a1 a2 a3 b0 b1 b2 b3 aH aT bH bT (k + d + 1) kk j z.1 z.2 h1 h2 hj (by omega) hs ht
    rw [show k + 10 + (d + 1) = k + d + 1 + 10 by omega, hn, hL]
    by_cases hg : L = kk + j
    · rw [if_pos hg, ← hg]
      have := ih k (j + 1) ((L : Int) - 1, (L : Int) - uL L) (by omega) (by omega) (by rw [if_pos ⟨by omega, by omega⟩])
      rw [show k + d + 1 + 9 = k + 10 + d by omega]
      exact this
    · rw [if_neg hg]
      have := ih k (j + 1) z (by omega) (by omega) (by
        rw [hz]
        by_cases h : kk < L ∧ L - kk < j
        · rw [if_pos h, if_pos ⟨h.1, by omega⟩]
        · rw [if_neg h, if_neg (fun c => h ⟨c.1, by omega⟩)])
      rw [show k + d + 1 + 9 = k + 10 + d by omega]
      exact this
theorem r_l0_end (k kk : Nat) (z1 z2 : Int) (h : aT.size < kk) (hs : aT.size ≤ 3) (ht : bH.size ≤ 3) : galleyref05_seam.l0 (k + 1) kk a0 a1 a2 a3 aH aT b0 b1 b2 b3 bH bT 0 z1 z2 0 = some (0, z1, z2, seamE (bytesOf aT) (bytesOf bH)) := by
  rw [galleyref05_seam.l0, if_neg (by omega)]
  unfold seamE
  rw [bytesOf_length]
  by_cases ha : (aT.size : Int) > 0
  · have e : wrap64 ((aT.size : Int) - 1) = ((aT.size - 1 : Nat) : Int) := by rw [w64 (by omega) (by omega)]; omega
    rw [if_pos ha]
    by_cases hb : (bH.size : Int) > 0
    · rw [if_pos hb, e, if_pos (by omega), if_pos (by omega), bt_bo aT _ (by simp; omega)]
      simp only [Int.toNat_natCast]
      by_cases h13 : (bytesOf aT).getD (aT.size - 1) (-1) = 13
      · rw [if_pos h13, if_pos (by omega), bt_bo bH _ (by simp; omega)]
        simp only [Int.toNat_zero]
        by_cases h10 : (bytesOf bH).getD 0 (-1) = 10
        · rw [if_pos h10, if_pos ⟨h13, h10⟩]
        · rw [if_neg h10, if_neg (fun c => h10 c.2)]
      · rw [if_neg h13, if_neg (fun c => h13 c.1)]
    · rw [if_neg hb, if_neg (fun c => by rw [getD_m1 _ 0 (by rw [bytesOf_length]; omega)] at c; omega)]
  · rw [if_neg ha, if_neg (fun c => by rw [getD_m1 _ _ (by rw [bytesOf_length]; omega)] at c; omega)]
theorem r_l0 (hs : aT.size ≤ 3) (ht : bH.size ≤ 3) (d : Nat) : ∀ (k kk : Nat) (z : Int × Int), 1 ≤ kk → kk + d = aT.size + 1 → z = seamR ((bytesOf aT).drop (aT.size - (kk - 1))) (bytesOf bH) →
    galleyref05_seam.l0 (k + 20 + 20 * d) kk a0 a1 a2 a3 aH aT b0 b1 b2 b3 bH bT 0 z.1 z.2 0 = some (0, (seamR (bytesOf aT) (bytesOf bH)).1, (seamR (bytesOf aT) (bytesOf bH)).2, seamE (bytesOf aT) (bytesOf bH)) := by
  induction d with
  | zero =>
    intro k kk z hk hd hz
    rw [show k + 20 + 20 * 0 = (k + 19) + 1 by omega, r_l0_end a0 a1 a2 a3 b0 b1 b2 b3 aH aT bH bT _ kk z.1 z.2 (by omega) hs ht, hz, show aT.size - (kk - 1) = 0 by omega, List.drop_zero]
  | succ d ih =>
    intro k kk z hk hd hz
    have hsw := seamR_swI (bytesOf aT) (bytesOf bH) kk hk (by rw [bytesOf_length]; omega)
    rw [bytesOf_length, ← hz] at hsw
    have h1 := r_l1 a0 a1 a2 a3 b0 b1 b2 b3 aH aT bH bT kk hk (by omega) hs ht z _ rfl bH.size (k + 20 + 20 * d + 9 - bH.size) 1 z (by omega) (by omega) (by rw [if_neg (by omega)])
    have h2 := ih (k + 18 - bH.size) (kk + 1) _ (by omega) (by omega) hsw.symm
    rw [show k + 20 + 20 * (d + 1) = (k + 20 + 20 * d + 9 - bH.size + 10 + bH.size) + 1 by omega, galleyref05_seam.l0, if_pos (by omega)]
    rw [show (1 : Int) = ((1 : Nat) : Int) from rfl, h1, show k + 20 + 20 * d + 9 - bH.size + 9 = k + 18 - bH.size + 20 + 20 * d by omega]
    exact h2
theorem rSeam_eq (k : Nat) (hs : aT.size ≤ 3) (ht : bH.size ≤ 3) (hk : 80 ≤ k) : galleyref05_seam.f k a0 a1 a2 a3 aH aT b0 b1 b2 b3 bH bT = some (0, (seamR (bytesOf aT) (bytesOf bH)).1, (seamR (bytesOf aT) (bytesOf bH)).2, seamE (bytesOf aT) (bytesOf bH)) := by
  unfold galleyref05_seam.f
  have h := r_l0 a0 a1 a2 a3 b0 b1 b2 b3 aH aT bH bT hs ht aT.size (k - 20 - 20 * aT.size) 1 (0, 0) (by omega) (by omega) (by rw [Nat.sub_self, Nat.sub_zero, List.drop_of_length_le (by rw [bytesOf_length]; omega)]; rfl)
  rw [show k - 20 - 20 * aT.size + 20 + 20 * aT.size = k by omega] at h
  exact h
end
end Go.Proofs.YtaojbcplmdjfnaaDoor.PuSm

namespace Go.Proofs.YtaojbcplmdjfnaaDoor.PuJn
open Go.RowKit Go.Proofs.YtaojbcplmdjfnaaDoor.Pr Go.Proofs.YtaojbcplmdjfnaaDoor.Math Go.Proofs.YtaojbcplmdjfnaaDoor.Ev Go.Proofs.YtaojbcplmdjfnaaDoor.PuSz Go.Proofs.YtaojbcplmdjfnaaDoor.PuMs Go.Proofs.YtaojbcplmdjfnaaDoor.PuSm Go.Proofs.YtaojbcplmdjfnaaDoorW.PrintWords Go.Proofs.YtaojbcplmdjfnaaDoorW.PrintLast Go.Proofs.YtaojbcplmdjfnaaDoorW.PrintMore
set_option linter.unusedVariables false
set_option linter.unusedSimpArgs false
def R64 (x : Int) : Prop := -9223372036854775808 ≤ x ∧ x ≤ 9223372036854775807
def vM (a : Ms) : Bool := vldB a.1 a.2.1 a.2.2.1 a.2.2.2.1 (bytesOf a.2.2.2.2.1) (bytesOf a.2.2.2.2.2)
theorem vld_range {n r u e : Int} {H T : List Int} (h : vldB n r u e H T = true) : (0 ≤ n ∧ n ≤ 268435456) ∧ (0 ≤ r ∧ r ≤ n) ∧ (0 ≤ u ∧ u ≤ 2 * n) ∧ (0 ≤ e ∧ e ≤ n) ∧ (H.length : Int) = min 3 n ∧ (T.length : Int) = min 3 n := by
  by_cases hc : n < 0 ∨ n > 268435456 ∨ (H.length : Int) ≠ min 3 n ∨ (T.length : Int) ≠ min 3 n
  · unfold vldB at h; rw [if_pos hc] at h; cases h
  · have hn : 0 ≤ n ∧ n ≤ 268435456 := by omega
    have hh : (H.length : Int) = min 3 n := by omega
    have ht : (T.length : Int) = min 3 n := by omega
    rw [vldB_in n r u e H T hn hh ht] at h
    refine ⟨hn, ?_⟩
    by_cases h6 : n ≤ 6
    · rw [if_pos h6, Bool.and_eq_true, decide_eq_true_eq, decide_eq_true_eq] at h
      obtain ⟨h1, h2, h3, h4⟩ := h
      have hs := ends_six n.toNat (by omega) H T (by omega) (by omega) h1
      generalize H ++ T.drop (H.length + T.length - n.toNat) = B at *
      have q1 := rn_bounds' B
      have q2 := en_bounds' B 0
      omega
    · rw [if_neg h6, decide_eq_true_eq] at h
      omega
def jnM (a b : Ms) : Ms :=
  (a.1 + b.1, a.2.1 + b.2.1 - (seamR (bytesOf a.2.2.2.2.2) (bytesOf b.2.2.2.2.1)).1, a.2.2.1 + b.2.2.1 - (seamR (bytesOf a.2.2.2.2.2) (bytesOf b.2.2.2.2.1)).2, a.2.2.2.1 + b.2.2.2.1 - seamE (bytesOf a.2.2.2.2.2) (bytesOf b.2.2.2.2.1),
    if a.1 < 3 then strOfNums ((bytesOf a.2.2.2.2.1 ++ bytesOf b.2.2.2.2.1).take 3) else a.2.2.2.2.1,
    if b.1 < 3 then strOfNums ((bytesOf a.2.2.2.2.2 ++ bytesOf b.2.2.2.2.2).drop (a.2.2.2.2.2.size + b.2.2.2.2.2.size - 3)) else b.2.2.2.2.2)
def erM (a b : Ms) : Int := if vM a = true ∧ vM b = true then (if a.1 + b.1 > 268435456 then 5 else if vM (jnM a b) = true then 0 else 50) else 50
def joM (a b : Ms) : Ms := if erM a b = 0 then jnM a b else m0
def smM (a b : Ms) : Int × Int × Int := if erM a b = 0 then ((seamR (bytesOf a.2.2.2.2.2) (bytesOf b.2.2.2.2.1)).1, (seamR (bytesOf a.2.2.2.2.2) (bytesOf b.2.2.2.2.1)).2, seamE (bytesOf a.2.2.2.2.2) (bytesOf b.2.2.2.2.1)) else (0, 0, 0)
theorem er_bad {a b : Ms} (h : ¬ (vM a = true ∧ vM b = true)) : erM a b = 50 := by unfold erM; rw [if_neg h]
theorem er_long {a b : Ms} (h : vM a = true ∧ vM b = true) (h' : a.1 + b.1 > 268435456) : erM a b = 5 := by unfold erM; rw [if_pos h, if_pos h']
theorem er_fine {a b : Ms} (h : vM a = true ∧ vM b = true) (h' : ¬ a.1 + b.1 > 268435456) (h2 : vM (jnM a b) = true) : erM a b = 0 := by unfold erM; rw [if_pos h, if_neg h', if_pos h2]
theorem er_not {a b : Ms} (h : vM a = true ∧ vM b = true) (h' : ¬ a.1 + b.1 > 268435456) (h2 : vM (jnM a b) = false) : erM a b = 50 := by unfold erM; rw [if_pos h, if_neg h', if_neg (by rw [h2]; decide)]
section
variable (a0 a1 a2 a3 b0 b1 b2 b3 : Int) (aH aT bH bT : ByteArray)
theorem sum_eq (p0 p1 p2 p3 q0 q1 q2 q3 t : Int) (ht : t = 1 ∨ t = -1) (h0 : 0 ≤ p0 ∧ p0 ≤ 4294967296) (h1 : 0 ≤ p1 ∧ p1 ≤ 4294967296) (h2 : 0 ≤ p2 ∧ p2 ≤ 4294967296) (h3 : 0 ≤ p3 ∧ p3 ≤ 4294967296)
    (g0 : 0 ≤ q0 ∧ q0 ≤ 4294967296) (g1 : 0 ≤ q1 ∧ q1 ≤ 4294967296) (g2 : 0 ≤ q2 ∧ q2 ≤ 4294967296) (g3 : 0 ≤ q3 ∧ q3 ≤ 4294967296) : weld_sum.f p0 p1 p2 p3 q0 q1 q2 q3 t = some (p0 + t * q0, p1 + t * q1, p2 + t * q2, p3 + t * q3) := by
  unfold weld_sum.f
  rcases ht with rfl | rfl
  · simp only [Int.one_mul]
    rw [w64 (n := q0) (by omega) (by omega), w64 (n := q1) (by omega) (by omega), w64 (n := q2) (by omega) (by omega), w64 (n := q3) (by omega) (by omega), w64 (by omega) (by omega), w64 (by omega) (by omega), w64 (by omega) (by omega), w64 (by omega) (by omega)]
  · simp only [Int.neg_mul, Int.one_mul]
    rw [w64 (n := -q0) (by omega) (by omega), w64 (n := -q1) (by omega) (by omega), w64 (n := -q2) (by omega) (by omega), w64 (n := -q3) (by omega) (by omega), w64 (by omega) (by omega), w64 (by omega) (by omega), w64 (by omega) (by omega), w64 (by omega) (by omega)]
def jT (b0 : Int) (aT bT : ByteArray) : ByteArray := if b0 < 3 then strOfNums ((bytesOf aT ++ bytesOf bT).drop (aT.size + bT.size - 3)) else bT
def jH (a0 : Int) (aH bH : ByteArray) : ByteArray := if a0 < 3 then strOfNums ((bytesOf aH ++ bytesOf bH).take 3) else aH
theorem j1_eq (k : Nat) (r0 r1 r2 r3 s0 s1 s2 s3 : Int) (h : ByteArray) (hr1 : R64 r1) (hr2 : R64 r2) (ha : aT.size ≤ 3) (hb : bT.size ≤ 3) :
    weld_both.j1 (k + 2) a0 a1 a2 a3 aH aT b0 b1 b2 b3 bH bT s0 s1 s2 s3 r0 r1 r2 r3 h bT = some (if vM (r0, r1, r2, r3, h, jT b0 aT bT) = true then (r0, r1, r2, r3, h, jT b0 aT bT, s0, s1, s2, s3, 0) else (0, 0, 0, 0, ⟨#[]⟩, ⟨#[]⟩, 0, 0, 0, 0, 50)) := by
  rw [weld_both.j1]
  unfold jT
  by_cases h3 : b0 < 3
  · rw [if_pos h3, if_pos (by omega), tail_eq _ (by rw [← bytesOf_length, bo_append, List.length_append, bytesOf_length, bytesOf_length]; omega), Option.bind_some, if_pos h3]
    have hsz : (aT ++ bT).size = aT.size + bT.size := by rw [← bytesOf_length, bo_append, List.length_append, bytesOf_length, bytesOf_length]
    rw [bo_append, hsz, weldValid_eq k _ _ _ _ _ _ hr1 hr2, Option.bind_some]
    unfold vM
    dsimp only
    split <;> rfl
  · rw [if_neg h3, if_neg h3, weldValid_eq k _ _ _ _ _ _ hr1 hr2, Option.bind_some]
    unfold vM
    dsimp only
    split <;> rfl
set_option maxHeartbeats 2000000 in
theorem both_eq (k : Nat) (hk : 120 ≤ k) (ha1 : R64 a1) (ha2 : R64 a2) (hb1 : R64 b1) (hb2 : R64 b2) :
    weld_both.f k a0 a1 a2 a3 aH aT b0 b1 b2 b3 bH bT = some ((joM (a0, a1, a2, a3, aH, aT) (b0, b1, b2, b3, bH, bT)).1, (joM (a0, a1, a2, a3, aH, aT) (b0, b1, b2, b3, bH, bT)).2.1, (joM (a0, a1, a2, a3, aH, aT) (b0, b1, b2, b3, bH, bT)).2.2.1, (joM (a0, a1, a2, a3, aH, aT) (b0, b1, b2, b3, bH, bT)).2.2.2.1, (joM (a0, a1, a2, a3, aH, aT) (b0, b1, b2, b3, bH, bT)).2.2.2.2.1, (joM (a0, a1, a2, a3, aH, aT) (b0, b1, b2, b3, bH, bT)).2.2.2.2.2,
      0, (smM (a0, a1, a2, a3, aH, aT) (b0, b1, b2, b3, bH, bT)).1, (smM (a0, a1, a2, a3, aH, aT) (b0, b1, b2, b3, bH, bT)).2.1, (smM (a0, a1, a2, a3, aH, aT) (b0, b1, b2, b3, bH, bT)).2.2, erM (a0, a1, a2, a3, aH, aT) (b0, b1, b2, b3, bH, bT)) := by
  obtain ⟨k, rfl⟩ : ∃ m, k = m + 120 := ⟨k - 120, by omega⟩
  generalize hA : ((a0, a1, a2, a3, aH, aT) : Ms) = A
  generalize hB : ((b0, b1, b2, b3, bH, bT) : Ms) = B
  have vA : vldB a0 a1 a2 a3 (bytesOf aH) (bytesOf aT) = vM A := by rw [← hA]; rfl
  have vB : vldB b0 b1 b2 b3 (bytesOf bH) (bytesOf bT) = vM B := by rw [← hB]; rfl
  have hbad : ∀ x : Bool, x = true → ¬ (vM A = true ∧ vM B = true) → weld_both.j0 (k + 120) x a0 a1 a2 a3 aH aT b0 b1 b2 b3 bH bT = some ((joM A B).1, (joM A B).2.1, (joM A B).2.2.1, (joM A B).2.2.2.1, (joM A B).2.2.2.2.1, (joM A B).2.2.2.2.2, 0, (smM A B).1, (smM A B).2.1, (smM A B).2.2, erM A B) := by
    intro x hx hv
    have he := er_bad hv
    have hj : joM A B = m0 := by unfold joM; rw [he]; rfl
    have hs : smM A B = (0, 0, 0) := by unfold smM; rw [he]; rfl
    rw [hj, hs, he, weld_both.j0, if_pos hx]
    rfl
  unfold weld_both.f
  rw [weldValid_eq (k + 119) a0 a1 a2 a3 aH aT ha1 ha2, vA, Option.bind_some]
  by_cases hva : vM A = true
  · rw [if_pos hva, weldValid_eq (k + 119) b0 b1 b2 b3 bH bT hb1 hb2, vB, Option.bind_some]
    by_cases hvb : vM B = true
    · have rA := vld_range (vA.trans hva)
      have rB := vld_range (vB.trans hvb)
      rw [bytesOf_length, bytesOf_length] at rA rB
      have hAB : A.1 = a0 ∧ B.1 = b0 := by rw [← hA, ← hB]; exact ⟨rfl, rfl⟩
      rw [weld_both.j0, hvb, if_neg (by decide), w64 (n := a0 + b0) (by omega) (by omega)]
      by_cases hlong : a0 + b0 > 268435456
      · have he := er_long ⟨hva, hvb⟩ (show A.1 + B.1 > 268435456 by rw [hAB.1, hAB.2]; exact hlong)
        have hj : joM A B = m0 := by unfold joM; rw [he]; rfl
        have hs : smM A B = (0, 0, 0) := by unfold smM; rw [he]; rfl
        rw [if_pos hlong, hj, hs, he]
        rfl
      · have hnl : ¬ A.1 + B.1 > 268435456 := by rw [hAB.1, hAB.2]; exact hlong
        have sr := seamR_range (bytesOf aT) (bytesOf bH)
        have se := seamE_range (bytesOf aT) (bytesOf bH)
        rw [if_neg hlong, wSeam_eq a0 a1 a2 a3 b0 b1 b2 b3 aH aT bH bT (k + 119) (by omega) (by omega) (by omega), Option.bind_some]
        dsimp only
        rw [sum_eq a0 a1 a2 a3 b0 b1 b2 b3 1 (.inl rfl) (by omega) (by omega) (by omega) (by omega) (by omega) (by omega) (by omega) (by omega), Option.bind_some]
        dsimp only
        have e0 : weld_sum.f (a0 + 1 * b0) (a1 + 1 * b1) (a2 + 1 * b2) (a3 + 1 * b3) 0 (seamR (bytesOf aT) (bytesOf bH)).1 (seamR (bytesOf aT) (bytesOf bH)).2 (seamE (bytesOf aT) (bytesOf bH)) (-1) = some (a0 + b0, a1 + b1 - (seamR (bytesOf aT) (bytesOf bH)).1, a2 + b2 - (seamR (bytesOf aT) (bytesOf bH)).2, a3 + b3 - seamE (bytesOf aT) (bytesOf bH)) := by
          rw [sum_eq _ _ _ _ _ _ _ _ (-1) (.inr rfl) (by omega) (by omega) (by omega) (by omega) (by omega) (by omega) (by omega) (by omega)]
          congr 1
          simp only [Int.one_mul, Int.neg_mul, Int.neg_zero, Int.add_zero, Int.sub_eq_add_neg]
        rw [e0, Option.bind_some]
        dsimp only
        have hj := j1_eq a0 a1 a2 a3 b0 b1 b2 b3 aH aT bH bT (k + 117) (a0 + b0) (a1 + b1 - (seamR (bytesOf aT) (bytesOf bH)).1) (a2 + b2 - (seamR (bytesOf aT) (bytesOf bH)).2) (a3 + b3 - seamE (bytesOf aT) (bytesOf bH)) 0 (seamR (bytesOf aT) (bytesOf bH)).1 (seamR (bytesOf aT) (bytesOf bH)).2 (seamE (bytesOf aT) (bytesOf bH)) (jH a0 aH bH) ⟨by omega, by omega⟩ ⟨by omega, by omega⟩ (by omega) (by omega)
        have hJ : jnM A B = (a0 + b0, a1 + b1 - (seamR (bytesOf aT) (bytesOf bH)).1, a2 + b2 - (seamR (bytesOf aT) (bytesOf bH)).2, a3 + b3 - seamE (bytesOf aT) (bytesOf bH), jH a0 aH bH, jT b0 aT bT) := by rw [← hA, ← hB]; rfl
        rw [← hJ] at hj
        have hgo : weld_both.j1 (k + 119) a0 a1 a2 a3 aH aT b0 b1 b2 b3 bH bT 0 (seamR (bytesOf aT) (bytesOf bH)).1 (seamR (bytesOf aT) (bytesOf bH)).2 (seamE (bytesOf aT) (bytesOf bH)) (a0 + b0) (a1 + b1 - (seamR (bytesOf aT) (bytesOf bH)).1) (a2 + b2 - (seamR (bytesOf aT) (bytesOf bH)).2) (a3 + b3 - seamE (bytesOf aT) (bytesOf bH)) (jH a0 aH bH) bT =
            some ((joM A B).1, (joM A B).2.1, (joM A B).2.2.1, (joM A B).2.2.2.1, (joM A B).2.2.2.2.1, (joM A B).2.2.2.2.2, 0, (smM A B).1, (smM A B).2.1, (smM A B).2.2, erM A B) := by
          rw [hj]
          by_cases hvj : vM (jnM A B) = true
          · have he := er_fine ⟨hva, hvb⟩ hnl hvj
            have hjo : joM A B = jnM A B := by unfold joM; rw [if_pos he]
            have hs : smM A B = ((seamR (bytesOf aT) (bytesOf bH)).1, (seamR (bytesOf aT) (bytesOf bH)).2, seamE (bytesOf aT) (bytesOf bH)) := by unfold smM; rw [if_pos he, ← hA, ← hB]
            rw [if_pos hvj, hjo, hs, he, hJ]
          · have he := er_not ⟨hva, hvb⟩ hnl (by simpa using hvj)
            have hjo : joM A B = m0 := by unfold joM; rw [he]; rfl
            have hs : smM A B = (0, 0, 0) := by unfold smM; rw [he]; rfl
            rw [if_neg hvj, hjo, hs, he]
            rfl
        rw [← hgo]
        by_cases h3 : a0 < 3
        · rw [if_pos h3, if_pos (by omega), head_eq', Option.bind_some, bo_append]
          unfold jH
          rw [if_pos h3]
        · rw [if_neg h3]
          unfold jH
          rw [if_neg h3]
    · rw [Bool.not_eq_true] at hvb
      rw [hvb]
      exact hbad _ rfl (fun c => by rw [hvb] at c; cases c.2)
  · rw [if_neg hva]
    exact hbad _ rfl (fun c => hva c.1)
theorem wJoin_eq (k : Nat) (hk : 120 ≤ k) (ha1 : R64 a1) (ha2 : R64 a2) (hb1 : R64 b1) (hb2 : R64 b2) :
    weld_Join.f k a0 a1 a2 a3 aH aT b0 b1 b2 b3 bH bT = some ((joM (a0, a1, a2, a3, aH, aT) (b0, b1, b2, b3, bH, bT)).1, (joM (a0, a1, a2, a3, aH, aT) (b0, b1, b2, b3, bH, bT)).2.1, (joM (a0, a1, a2, a3, aH, aT) (b0, b1, b2, b3, bH, bT)).2.2.1, (joM (a0, a1, a2, a3, aH, aT) (b0, b1, b2, b3, bH, bT)).2.2.2.1, (joM (a0, a1, a2, a3, aH, aT) (b0, b1, b2, b3, bH, bT)).2.2.2.2.1, (joM (a0, a1, a2, a3, aH, aT) (b0, b1, b2, b3, bH, bT)).2.2.2.2.2, erM (a0, a1, a2, a3, aH, aT) (b0, b1, b2, b3, bH, bT)) := by
  unfold weld_Join.f
  rw [both_eq a0 a1 a2 a3 b0 b1 b2 b3 aH aT bH bT k hk ha1 ha2 hb1 hb2]
  rfl
theorem wSeamF_eq (k : Nat) (hk : 120 ≤ k) (ha1 : R64 a1) (ha2 : R64 a2) (hb1 : R64 b1) (hb2 : R64 b2) :
    weld_Seam.f k a0 a1 a2 a3 aH aT b0 b1 b2 b3 bH bT = some (0, (smM (a0, a1, a2, a3, aH, aT) (b0, b1, b2, b3, bH, bT)).1, (smM (a0, a1, a2, a3, aH, aT) (b0, b1, b2, b3, bH, bT)).2.1, (smM (a0, a1, a2, a3, aH, aT) (b0, b1, b2, b3, bH, bT)).2.2, erM (a0, a1, a2, a3, aH, aT) (b0, b1, b2, b3, bH, bT)) := by
  unfold weld_Seam.f
  rw [both_eq a0 a1 a2 a3 b0 b1 b2 b3 aH aT bH bT k hk ha1 ha2 hb1 hb2]
  rfl
theorem rj1_eq (k : Nat) (s0 s1 s2 s3 y0 y1 y2 y3 : Int) (h : ByteArray) (h0 : 0 ≤ a0 ∧ a0 ≤ 4294967296) (h1 : 0 ≤ a1 ∧ a1 ≤ 4294967296) (h2 : 0 ≤ a2 ∧ a2 ≤ 4294967296) (h3 : 0 ≤ a3 ∧ a3 ≤ 4294967296)
    (g0 : 0 ≤ b0 ∧ b0 ≤ 4294967296) (g1 : 0 ≤ b1 ∧ b1 ≤ 4294967296) (g2 : 0 ≤ b2 ∧ b2 ≤ 4294967296) (g3 : 0 ≤ b3 ∧ b3 ≤ 4294967296) (q1 : 0 ≤ s1 ∧ s1 ≤ 3) (q2 : 0 ≤ s2 ∧ s2 ≤ 3) (q3 : 0 ≤ s3 ∧ s3 ≤ 3) (ha : aT.size ≤ 3) (hb : bT.size ≤ 3) (hbt : (bT.size : Int) = min 3 b0) :
    galleyref05_Join.j1 (k + 26) a0 a1 a2 a3 aH aT b0 b1 b2 b3 bH bT s0 s1 s2 s3 y0 y1 y2 y3 h bT = some (if vM (a0 + b0, a1 + b1 - s1, a2 + b2 - s2, a3 + b3 - s3, h, jT b0 aT bT) = true then (a0 + b0, a1 + b1 - s1, a2 + b2 - s2, a3 + b3 - s3, h, jT b0 aT bT, 0) else (0, 0, 0, 0, ⟨#[]⟩, ⟨#[]⟩, 50)) := by
  rw [galleyref05_Join.j1, w64 (n := a0 + b0) (by omega) (by omega), w64 (n := a1 + b1) (by omega) (by omega), w64 (n := a2 + b2) (by omega) (by omega), w64 (n := a3 + b3) (by omega) (by omega), w64 (n := a1 + b1 - s1) (by omega) (by omega), w64 (n := a2 + b2 - s2) (by omega) (by omega), w64 (n := a3 + b3 - s3) (by omega) (by omega)]
  unfold jT
  by_cases hc : b0 < 3
  · have hsz : (aT ++ bT).size = aT.size + bT.size := by rw [← bytesOf_length, bo_append, List.length_append, bytesOf_length, bytesOf_length]
    rw [if_pos (by omega), if_pos (by omega), rtail_eq _ (by omega), Option.bind_some, if_pos hc]
    rw [bo_append, hsz, refValid_eq k _ _ _ _ _ _ ⟨by omega, by omega⟩ ⟨by omega, by omega⟩, Option.bind_some]
    unfold vM
    dsimp only
    split <;> rfl
  · rw [if_neg (by omega), if_neg hc, refValid_eq k _ _ _ _ _ _ ⟨by omega, by omega⟩ ⟨by omega, by omega⟩, Option.bind_some]
    unfold vM
    dsimp only
    split <;> rfl
set_option maxHeartbeats 2000000 in
theorem rJoin_eq (k : Nat) (hk : 150 ≤ k) (ha1 : R64 a1) (ha2 : R64 a2) (hb1 : R64 b1) (hb2 : R64 b2) :
    galleyref05_Join.f k a0 a1 a2 a3 aH aT b0 b1 b2 b3 bH bT = some ((joM (a0, a1, a2, a3, aH, aT) (b0, b1, b2, b3, bH, bT)).1, (joM (a0, a1, a2, a3, aH, aT) (b0, b1, b2, b3, bH, bT)).2.1, (joM (a0, a1, a2, a3, aH, aT) (b0, b1, b2, b3, bH, bT)).2.2.1, (joM (a0, a1, a2, a3, aH, aT) (b0, b1, b2, b3, bH, bT)).2.2.2.1, (joM (a0, a1, a2, a3, aH, aT) (b0, b1, b2, b3, bH, bT)).2.2.2.2.1, (joM (a0, a1, a2, a3, aH, aT) (b0, b1, b2, b3, bH, bT)).2.2.2.2.2, erM (a0, a1, a2, a3, aH, aT) (b0, b1, b2, b3, bH, bT)) := by
  obtain ⟨k, rfl⟩ : ∃ m, k = m + 150 := ⟨k - 150, by omega⟩
  generalize hA : ((a0, a1, a2, a3, aH, aT) : Ms) = A
  generalize hB : ((b0, b1, b2, b3, bH, bT) : Ms) = B
  have vA : vldB a0 a1 a2 a3 (bytesOf aH) (bytesOf aT) = vM A := by rw [← hA]; rfl
  have vB : vldB b0 b1 b2 b3 (bytesOf bH) (bytesOf bT) = vM B := by rw [← hB]; rfl
  have hbad : ∀ x : Bool, x = true → ¬ (vM A = true ∧ vM B = true) → galleyref05_Join.j0 (k + 150) x a0 a1 a2 a3 aH aT b0 b1 b2 b3 bH bT = some ((joM A B).1, (joM A B).2.1, (joM A B).2.2.1, (joM A B).2.2.2.1, (joM A B).2.2.2.2.1, (joM A B).2.2.2.2.2, erM A B) := by
    intro x hx hv
    have he := er_bad hv
    have hj : joM A B = m0 := by unfold joM; rw [he]; rfl
    rw [hj, he, galleyref05_Join.j0, if_pos hx]
    rfl
  unfold galleyref05_Join.f
  rw [refValid_eq (k + 125) a0 a1 a2 a3 aH aT ha1 ha2, vA, Option.bind_some]
  by_cases hva : vM A = true
  · rw [if_pos hva, refValid_eq (k + 125) b0 b1 b2 b3 bH bT hb1 hb2, vB, Option.bind_some]
    by_cases hvb : vM B = true
    · have rA := vld_range (vA.trans hva)
      have rB := vld_range (vB.trans hvb)
      rw [bytesOf_length, bytesOf_length] at rA rB
      have hAB : A.1 = a0 ∧ B.1 = b0 := by rw [← hA, ← hB]; exact ⟨rfl, rfl⟩
      rw [galleyref05_Join.j0, hvb, if_neg (by decide), w64 (n := a0 + b0) (by omega) (by omega)]
      by_cases hlong : a0 + b0 > 268435456
      · have he := er_long ⟨hva, hvb⟩ (show A.1 + B.1 > 268435456 by rw [hAB.1, hAB.2]; exact hlong)
        have hj : joM A B = m0 := by unfold joM; rw [he]; rfl
        rw [if_pos hlong, hj, he]
        rfl
      · have hnl : ¬ A.1 + B.1 > 268435456 := by rw [hAB.1, hAB.2]; exact hlong
        have sr := seamR_range (bytesOf aT) (bytesOf bH)
        have se := seamE_range (bytesOf aT) (bytesOf bH)
        rw [if_neg hlong, rSeam_eq a0 a1 a2 a3 b0 b1 b2 b3 aH aT bH bT (k + 149) (by omega) (by omega) (by omega), Option.bind_some]
        dsimp only
        have hj := rj1_eq a0 a1 a2 a3 b0 b1 b2 b3 aH aT bH bT (k + 123) 0 (seamR (bytesOf aT) (bytesOf bH)).1 (seamR (bytesOf aT) (bytesOf bH)).2 (seamE (bytesOf aT) (bytesOf bH)) 0 0 0 0 (jH a0 aH bH) (by omega) (by omega) (by omega) (by omega) (by omega) (by omega) (by omega) (by omega) (by omega) (by omega) (by omega) (by omega) (by omega) (by omega)
        have hJ : jnM A B = (a0 + b0, a1 + b1 - (seamR (bytesOf aT) (bytesOf bH)).1, a2 + b2 - (seamR (bytesOf aT) (bytesOf bH)).2, a3 + b3 - seamE (bytesOf aT) (bytesOf bH), jH a0 aH bH, jT b0 aT bT) := by rw [← hA, ← hB]; rfl
        rw [← hJ] at hj
        have hgo : galleyref05_Join.j1 (k + 149) a0 a1 a2 a3 aH aT b0 b1 b2 b3 bH bT 0 (seamR (bytesOf aT) (bytesOf bH)).1 (seamR (bytesOf aT) (bytesOf bH)).2 (seamE (bytesOf aT) (bytesOf bH)) 0 0 0 0 (jH a0 aH bH) bT =
            some ((joM A B).1, (joM A B).2.1, (joM A B).2.2.1, (joM A B).2.2.2.1, (joM A B).2.2.2.2.1, (joM A B).2.2.2.2.2, erM A B) := by
          rw [hj]
          by_cases hvj : vM (jnM A B) = true
          · have he := er_fine ⟨hva, hvb⟩ hnl hvj
            have hjo : joM A B = jnM A B := by unfold joM; rw [if_pos he]
            rw [if_pos hvj, hjo, he, hJ]
          · have he := er_not ⟨hva, hvb⟩ hnl (by simpa using hvj)
            have hjo : joM A B = m0 := by unfold joM; rw [he]; rfl
            rw [if_neg hvj, hjo, he]
            rfl
        rw [← hgo]
        by_cases h3 : a0 < 3
        · rw [if_pos (by omega), if_pos (by omega), rhead_eq, Option.bind_some, bo_append]
          unfold jH
          rw [if_pos h3]
        · rw [if_neg (by omega)]
          unfold jH
          rw [if_neg h3]
    · rw [Bool.not_eq_true] at hvb
      rw [hvb]
      exact hbad _ rfl (fun c => by rw [hvb] at c; cases c.2)
  · rw [if_neg hva]
    exact hbad _ rfl (fun c => hva c.1)
theorem rSeamF_eq (k : Nat) (hk : 150 ≤ k) (ha1 : R64 a1) (ha2 : R64 a2) (hb1 : R64 b1) (hb2 : R64 b2) :
    galleyref05_Seam.f k a0 a1 a2 a3 aH aT b0 b1 b2 b3 bH bT = some (0, (smM (a0, a1, a2, a3, aH, aT) (b0, b1, b2, b3, bH, bT)).1, (smM (a0, a1, a2, a3, aH, aT) (b0, b1, b2, b3, bH, bT)).2.1, (smM (a0, a1, a2, a3, aH, aT) (b0, b1, b2, b3, bH, bT)).2.2, erM (a0, a1, a2, a3, aH, aT) (b0, b1, b2, b3, bH, bT)) := by
  unfold galleyref05_Seam.f
  rw [rJoin_eq a0 a1 a2 a3 b0 b1 b2 b3 aH aT bH bT k hk ha1 ha2 hb1 hb2, Option.bind_some]
  dsimp only
  by_cases he : erM (a0, a1, a2, a3, aH, aT) (b0, b1, b2, b3, bH, bT) = 0
  · have hv : vM (a0, a1, a2, a3, aH, aT) = true ∧ vM (b0, b1, b2, b3, bH, bT) = true := by
      apply Classical.byContradiction
      intro h
      rw [er_bad h] at he
      cases he
    have rA := vld_range (show vldB a0 a1 a2 a3 (bytesOf aH) (bytesOf aT) = true from hv.1)
    have rB := vld_range (show vldB b0 b1 b2 b3 (bytesOf bH) (bytesOf bT) = true from hv.2)
    rw [bytesOf_length, bytesOf_length] at rA rB
    rw [if_pos he, rSeam_eq a0 a1 a2 a3 b0 b1 b2 b3 aH aT bH bT k (by omega) (by omega) (by omega), Option.bind_some, he]
    unfold smM
    rw [if_pos he]
  · rw [if_neg he]
    unfold smM
    rw [if_neg he]
end
end Go.Proofs.YtaojbcplmdjfnaaDoor.PuJn

namespace Go.Proofs.YtaojbcplmdjfnaaDoor.PuWAny
open Go.RowKit Go.Proofs.YtaojbcplmdjfnaaDoor.Pr Go.Proofs.YtaojbcplmdjfnaaDoor.Math Go.Proofs.YtaojbcplmdjfnaaDoor.Ev Go.Proofs.YtaojbcplmdjfnaaDoor.PuSz Go.Proofs.YtaojbcplmdjfnaaDoor.PuMs Go.Proofs.YtaojbcplmdjfnaaDoor.PuSm Go.Proofs.YtaojbcplmdjfnaaDoor.PuJn Go.Proofs.YtaojbcplmdjfnaaDoorW.PrintWords Go.Proofs.YtaojbcplmdjfnaaDoorW.PrintLast Go.Proofs.YtaojbcplmdjfnaaDoorW.PrintMore
set_option linter.unusedVariables false
set_option linter.unusedSimpArgs false
theorem WeldAny (a0 a1 a2 a3 b0 b1 b2 b3 : Int) (aH aT bH bT : ByteArray) (ha1 : R64 a1) (ha2 : R64 a2) (hb1 : R64 b1) (hb2 : R64 b2) :
    galleylaw05_WeldAny.f 200 a0 a1 a2 a3 aH aT b0 b1 b2 b3 bH bT = some true := by
  have hf : galleylaw05_fixed.f = some true := rfl
  unfold galleylaw05_WeldAny.f
  rw [hf, Option.bind_some, if_pos rfl, weldValid_eq 199 a0 a1 a2 a3 aH aT ha1 ha2, Option.bind_some, refValid_eq 175 a0 a1 a2 a3 aH aT ha1 ha2, Option.bind_some, if_neg (by simp), weldValid_eq 199 b0 b1 b2 b3 bH bT hb1 hb2, Option.bind_some, refValid_eq 175 b0 b1 b2 b3 bH bT hb1 hb2, Option.bind_some]
  rw [galleylaw05_WeldAny.j0, if_neg (by simp)]
  rw [wJoin_eq a0 a1 a2 a3 b0 b1 b2 b3 aH aT bH bT 199 (by omega) ha1 ha2 hb1 hb2, Option.bind_some, rJoin_eq a0 a1 a2 a3 b0 b1 b2 b3 aH aT bH bT 199 (by omega) ha1 ha2 hb1 hb2, Option.bind_some, wSeamF_eq a0 a1 a2 a3 b0 b1 b2 b3 aH aT bH bT 199 (by omega) ha1 ha2 hb1 hb2, Option.bind_some, rSeamF_eq a0 a1 a2 a3 b0 b1 b2 b3 aH aT bH bT 199 (by omega) ha1 ha2 hb1 hb2, Option.bind_some]
  dsimp only
  generalize hA : ((a0, a1, a2, a3, aH, aT) : Ms) = A
  generalize hB : ((b0, b1, b2, b3, bH, bT) : Ms) = B
  rw [if_neg (by simp), if_pos rfl, if_neg (by simp), if_pos rfl]
  by_cases he : erM A B = 0
  · have hv : (vM A = true ∧ vM B = true) ∧ vM (jnM A B) = true := by
      by_cases h : vM A = true ∧ vM B = true
      · refine ⟨h, ?_⟩
        unfold erM at he
        rw [if_pos h] at he
        split at he
        · cases he
        · split at he
          · assumption
          · cases he
      · rw [er_bad h] at he; cases he
    have hj : joM A B = jnM A B := by unfold joM; rw [if_pos he]
    have rJ := vld_range hv.2
    have sr := seamR_range (bytesOf A.2.2.2.2.2) (bytesOf B.2.2.2.2.1)
    have se := seamE_range (bytesOf A.2.2.2.2.2) (bytesOf B.2.2.2.2.1)
    have hs : smM A B = ((seamR (bytesOf A.2.2.2.2.2) (bytesOf B.2.2.2.2.1)).1, (seamR (bytesOf A.2.2.2.2.2) (bytesOf B.2.2.2.2.1)).2, seamE (bytesOf A.2.2.2.2.2) (bytesOf B.2.2.2.2.1)) := by unfold smM; rw [if_pos he]
    rw [if_pos he, hj, weldValid_eq 198 _ _ _ _ _ _ ⟨by omega, by omega⟩ ⟨by omega, by omega⟩, Option.bind_some]
    have hvj : vldB (jnM A B).1 (jnM A B).2.1 (jnM A B).2.2.1 (jnM A B).2.2.2.1 (bytesOf (jnM A B).2.2.2.2.1) (bytesOf (jnM A B).2.2.2.2.2) = true := hv.2
    rw [hvj, if_pos rfl, if_pos rfl, hs]
    dsimp only
    rw [if_pos sr.1, if_pos sr.2.1, if_pos sr.2.2.1, if_pos sr.2.2.2, if_pos se.1, decide_eq_true se.2]
  · rw [if_neg he]
end Go.Proofs.YtaojbcplmdjfnaaDoor.PuWAny
