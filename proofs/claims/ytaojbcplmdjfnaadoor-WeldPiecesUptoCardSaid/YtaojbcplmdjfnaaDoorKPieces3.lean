/- Part 3 of the lemmas on which the card weldPieces_card stands (its sentence and conditions stand in the last text). Conditions: as each lemma says. -/
import Derived.Test.YtaojbcplmdjfnaaDoorKPieces2
namespace Go.Proofs.YtaojbcplmdjfnaaDoor.Pr
open Go.RowKit Go.Proofs.YtaojbcplmdjfnaaDoorW.PrintWords Go.Proofs.YtaojbcplmdjfnaaDoorW.PrintLast Go.Proofs.YtaojbcplmdjfnaaDoorW.PrintMore
attribute [local go_sem] max2_int min2_int max_two min_two max_three min_three max_four min_four   -- for this text's walks alone
set_option linter.unusedVariables false
set_option linter.unusedSimpArgs false
mutual
def weld_both.j0 : Nat → Bool → Int → Int → Int → Int → ByteArray → ByteArray → Int → Int → Int → Int → ByteArray → ByteArray → Option (Int × Int × Int × Int × ByteArray × ByteArray × Int × Int × Int × Int × Int)
 | 0, _, _, _, _, _, _, _, _, _, _, _, _, _ => none
 | k + 1, x9, x146000, x146001, x146002, x146003, x146004, x146005, x147000, x147001, x147002, x147003, x147004, x147005 => if x9 = true then (some (0, 0, 0, 0, (⟨#[]⟩ : ByteArray), (⟨#[]⟩ : ByteArray), 0, 0, 0, 0, 50)) else (if (wrap64 (x146000 + x147000)) > 268435456 then (some (0, 0, 0, 0, (⟨#[]⟩ : ByteArray), (⟨#[]⟩ : ByteArray), 0, 0, 0, 0, 5)) else ((weld_seam.f k x146000 x146001 x146002 x146003 x146004 x146005 x147000 x147001 x147002 x147003 x147004 x147005).bind fun bt151 => ((weld_sum.f x146000 x146001 x146002 x146003 x147000 x147001 x147002 x147003 1).bind fun bt156 => ((weld_sum.f bt156.1 bt156.2.1 bt156.2.2.1 bt156.2.2.2 bt151.1 bt151.2.1 bt151.2.2.1 bt151.2.2.2 (-1)).bind fun bt160 => (if x146000 < 3 then (if x146004.size + x147004.size ≤ 9223372036854775807 then ((weld_head.f (x146004 ++ x147004)).bind fun t165 => (weld_both.j1 k x146000 x146001 x146002 x146003 x146004 x146005 x147000 x147001 x147002 x147003 x147004 x147005 bt151.1 bt151.2.1 bt151.2.2.1 bt151.2.2.2 bt160.1 bt160.2.1 bt160.2.2.1 bt160.2.2.2 t165 x147005)) else (none)) else (weld_both.j1 k x146000 x146001 x146002 x146003 x146004 x146005 x147000 x147001 x147002 x147003 x147004 x147005 bt151.1 bt151.2.1 bt151.2.2.1 bt151.2.2.2 bt160.1 bt160.2.1 bt160.2.2.1 bt160.2.2.2 x146004 x147005))))))
def weld_both.j1 : Nat → Int → Int → Int → Int → ByteArray → ByteArray → Int → Int → Int → Int → ByteArray → ByteArray → Int → Int → Int → Int → Int → Int → Int → Int → ByteArray → ByteArray → Option (Int × Int × Int × Int × ByteArray × ByteArray × Int × Int × Int × Int × Int)
 | 0, _, _, _, _, _, _, _, _, _, _, _, _, _, _, _, _, _, _, _, _, _, _ => none
 | k + 1, x146000, x146001, x146002, x146003, x146004, x146005, x147000, x147001, x147002, x147003, x147004, x147005, x156000, x156001, x156002, x156003, x165000, x165001, x165002, x165003, x165004, x165005 => if x147000 < 3 then (if x146005.size + x147005.size ≤ 9223372036854775807 then ((weld_tail.f (x146005 ++ x147005)).bind fun t166 => ((weld_Valid.f k x165000 x165001 x165002 x165003 x165004 t166).bind fun t167 => (if t167 = true then (some (x165000, x165001, x165002, x165003, x165004, t166, x156000, x156001, x156002, x156003, 0)) else (some (0, 0, 0, 0, (⟨#[]⟩ : ByteArray), (⟨#[]⟩ : ByteArray), 0, 0, 0, 0, 50))))) else (none)) else ((weld_Valid.f k x165000 x165001 x165002 x165003 x165004 x165005).bind fun t168 => (if t168 = true then (some (x165000, x165001, x165002, x165003, x165004, x165005, x156000, x156001, x156002, x156003, 0)) else (some (0, 0, 0, 0, (⟨#[]⟩ : ByteArray), (⟨#[]⟩ : ByteArray), 0, 0, 0, 0, 50))))
end
def weld_both.f (k : Nat) (a0_0 : Int) (a0_1 : Int) (a0_2 : Int) (a0_3 : Int) (a0_4 : ByteArray) (a0_5 : ByteArray) (a1_0 : Int) (a1_1 : Int) (a1_2 : Int) (a1_3 : Int) (a1_4 : ByteArray) (a1_5 : ByteArray) : Option (Int × Int × Int × Int × ByteArray × ByteArray × Int × Int × Int × Int × Int) := (weld_Valid.f k a0_0 a0_1 a0_2 a0_3 a0_4 a0_5).bind fun t149 => (if t149 = true then ((weld_Valid.f k a1_0 a1_1 a1_2 a1_3 a1_4 a1_5).bind fun t150 => (weld_both.j0 k (!t150) a0_0 a0_1 a0_2 a0_3 a0_4 a0_5 a1_0 a1_1 a1_2 a1_3 a1_4 a1_5)) else (weld_both.j0 k true a0_0 a0_1 a0_2 a0_3 a0_4 a0_5 a1_0 a1_1 a1_2 a1_3 a1_4 a1_5))
def weld_both.T6 : Bool × List (List Nat × List Nat) := (true, [([], []), ([0], [0]), ([], []), ([2], [2]), ([1, 3], [1, 3]), ([], []), ([4, 5, 4], [4, 5]), ([], []), ([7], [7]), ([], []), ([9], [9]), ([6, 8, 10], [6, 8, 10]), ([], []), ([12, 11, 6, 0, 1, 2, 3, 4, 5, 6, 7, 8, 9, 10, 11, 12], [11, 12])])
def weld_both.B6 : List Nat := [0, 1, 0, 4, 15, 0, 63, 0, 128, 0, 512, 2047, 0, 8191]
theorem weld_both.tab6 : rtab .any (opsOf Tryd.f32 6) = weld_both.T6 := by kernel_rfl
theorem weld_both.bits6 : waitsOk weld_both.T6.2 weld_both.B6 = true := by kernel_rfl
set_option maxHeartbeats 8000000 in
set_option maxRecDepth 100000 in
theorem weld_both.calls (k : Nat) (a0_0 : Int) (a0_1 : Int) (a0_2 : Int) (a0_3 : Int) (a0_4 : ByteArray) (a0_5 : ByteArray) (a1_0 : Int) (a1_1 : Int) (a1_2 : Int) (a1_3 : Int) (a1_4 : ByteArray) (a1_5 : ByteArray) (r1 : Int) (r2 : Int) (r3 : Int) (r4 : Int) (r5 : ByteArray) (r6 : ByteArray) (r7 : Int) (r8 : Int) (r9 : Int) (r10 : Int) (r11 : Int) (w : World) (hG : Glob.Globs w) (h : weld_both.f k a0_0 a0_1 a0_2 a0_3 a0_4 a0_5 a1_0 a1_1 a1_2 a1_3 a1_4 a1_5 = some (r1, r2, r3, r4, r5, r6, r7, r8, r9, r10, r11)) :
  Calls Tryd.prog 32 #[.agg #[.int .i64 a0_0, .int .i64 a0_1, .int .i64 a0_2, .int .i64 a0_3, .string a0_4, .string a0_5], .agg #[.int .i64 a1_0, .int .i64 a1_1, .int .i64 a1_2, .int .i64 a1_3, .string a1_4, .string a1_5]] w fun e w' => e = .returned (.tuple #[.agg #[.int .i64 r1, .int .i64 r2, .int .i64 r3, .int .i64 r4, .string r5, .string r6], .agg #[.int .i64 r7, .int .i64 r8, .int .i64 r9, .int .i64 r10], .int .i64 r11]) ∧ Below w.heap.size w w' := by
 have hu26 := Tryd.underlying26
 have hu24 := Tryd.underlying24
 have HG := Aside0.mk hG
 clear hG
 have HB := Aside0.mk (Below.refl w.heap.size w)
 have H : ((weld_Valid.f k a0_0 a0_1 a0_2 a0_3 a0_4 a0_5).bind fun t149 => (if t149 = true then ((weld_Valid.f k a1_0 a1_1 a1_2 a1_3 a1_4 a1_5).bind fun t150 => (weld_both.j0 k (!t150) a0_0 a0_1 a0_2 a0_3 a0_4 a0_5 a1_0 a1_1 a1_2 a1_3 a1_4 a1_5)) else (weld_both.j0 k true a0_0 a0_1 a0_2 a0_3 a0_4 a0_5 a1_0 a1_1 a1_2 a1_3 a1_4 a1_5))) = some (r1, r2, r3, r4, r5, r6, r7, r8, r9, r10, r11) := h
 clear h
 have HC3 := Aside0.mk H
 clear H
 go_enter Tryd.func32, Tryd.ntmps32
 go_upto_region 1 with (first | ((with_reducible refine gate_dst (N := 2) rfl ?_); refine box_event ?hg (N := 2) ?hd (cs := #[.int .i64 a0_0, .int .i64 a0_1, .int .i64 a0_2, .int .i64 a0_3, .string a0_4, .string a0_5]) (t := 26) ?hr ?_; (case hd => rfl); (case hg => rfl); (case hr => first | (go_simp; done) | (go_simp; rfl)); intro gb145 hg w4 hbox hb; have n0_ := Aside0.mk (below_step (by repeat (first | (with_reducible first | exact HB.out | apply below_alloc | apply pw_below_drewN | apply below_drew1) | exact HB.out)) hb); have n1_ := Aside0.mk (hbox); have n2_ := Aside0.mk ((by rw [hg]; exact (below_size (by repeat (first | (with_reducible first | exact HB.out | apply below_alloc | apply pw_below_drewN | apply below_drew1) | exact HB.out))) : w.heap.size ≤ gb145)); have n3_ := Aside0.mk ((by rw [hg]; exact (below_size (by repeat (first | (with_reducible first | exact HB.out | apply below_alloc | apply pw_below_drewN | apply below_drew1) | exact HB.out))) : w.heap.size ≤ gb145)); clear HB; have HB := n0_; have BK145 := n1_; have GW145 := n2_; have GE145 := n3_; clear n0_ n1_ n2_ n3_; clear hb hbox hg) | ((with_reducible refine gate_dst (N := 3) rfl ?_); refine box_event ?hg (N := 3) ?hd (cs := #[.int .i64 a1_0, .int .i64 a1_1, .int .i64 a1_2, .int .i64 a1_3, .string a1_4, .string a1_5]) (t := 26) ?hr ?_; (case hd => rfl); (case hg => rfl); (case hr => first | (go_simp; done) | (go_simp; rfl)); intro gb146 hg w5 hbox hb; have n0_ := Aside0.mk (blk_below (g := gb145) (o := .cells #[.int .i64 a0_0, .int .i64 a0_1, .int .i64 a0_2, .int .i64 a0_3, .string a0_4, .string a0_5] 26 (0, 0)) (by (with_reducible repeat (first | refine blk_drewN ?_ _ | refine blk_drew ?_ | refine blk_alloc ?_ _)); exact BK145.out) hb); have n1_ := Aside0.mk (below_step (by repeat (first | (with_reducible first | exact HB.out | apply below_alloc | apply pw_below_drewN | apply below_drew1 | refine below_set ?_ GE145.out) | exact HB.out)) hb); have n2_ := Aside0.mk (hbox); have n3_ := Aside0.mk ((by rw [hg]; exact (below_size (by repeat (first | (with_reducible first | exact HB.out | apply below_alloc | apply pw_below_drewN | apply below_drew1 | refine below_set ?_ GE145.out) | exact HB.out))) : w.heap.size ≤ gb146)); have n4_ := Aside0.mk ((by rw [hg]; exact (below_size (by repeat (first | (with_reducible first | exact HB.out | apply below_alloc | apply pw_below_drewN | apply below_drew1 | refine below_set ?_ GE145.out) | exact HB.out))) : w.heap.size ≤ gb146)); have n5_ := Aside0.mk ((by rw [hg]; exact Nat.ne_of_lt (blk_lt (g := gb145) (o := .cells #[.int .i64 a0_0, .int .i64 a0_1, .int .i64 a0_2, .int .i64 a0_3, .string a0_4, .string a0_5] 26 (0, 0)) (by (with_reducible repeat (first | refine blk_drewN ?_ _ | refine blk_drew ?_ | refine blk_alloc ?_ _)); exact BK145.out)) : gb145 ≠ gb146)); have n6_ := Aside0.mk ((by rw [hg]; exact Nat.ne_of_gt (blk_lt (g := gb145) (o := .cells #[.int .i64 a0_0, .int .i64 a0_1, .int .i64 a0_2, .int .i64 a0_3, .string a0_4, .string a0_5] 26 (0, 0)) (by (with_reducible repeat (first | refine blk_drewN ?_ _ | refine blk_drew ?_ | refine blk_alloc ?_ _)); exact BK145.out)) : gb146 ≠ gb145)); clear BK145; clear HB; have BK145 := n0_; have HB := n1_; have BK146 := n2_; have GW146 := n3_; have GE146 := n4_; have NB145_146 := n5_; have NB146_145 := n6_; clear n0_ n1_ n2_ n3_ n4_ n5_ n6_; clear hb hbox hg) | ((with_reducible refine gate_dst (N := 4) rfl ?_); refine box_event ?hg (N := 4) ?hd (cs := #[.int .i64 0, .int .i64 0, .int .i64 0, .int .i64 0, .string (⟨#[]⟩ : ByteArray), .string (⟨#[]⟩ : ByteArray)]) (t := 26) ?hr ?_; (case hd => rfl); (case hg => rfl); (case hr => first | (go_simp; done) | (go_simp; rfl)); intro gb147 hg w6 hbox hb; have n0_ := Aside0.mk (blk_below (g := gb145) (o := .cells #[.int .i64 a0_0, .int .i64 a0_1, .int .i64 a0_2, .int .i64 a0_3, .string a0_4, .string a0_5] 26 (0, 0)) (by (with_reducible repeat (first | refine blk_drewN ?_ _ | refine blk_drew ?_ | refine blk_alloc ?_ _)); exact BK145.out) hb); have n1_ := Aside0.mk (blk_below (g := gb146) (o := .cells #[.int .i64 a1_0, .int .i64 a1_1, .int .i64 a1_2, .int .i64 a1_3, .string a1_4, .string a1_5] 26 (0, 0)) (by (with_reducible repeat (first | refine blk_drewN ?_ _ | refine blk_drew ?_ | refine blk_alloc ?_ _)); exact BK146.out) hb); have n2_ := Aside0.mk (below_step (by repeat (first | (with_reducible first | exact HB.out | apply below_alloc | apply pw_below_drewN | apply below_drew1 | refine below_set ?_ GE145.out | refine below_set ?_ GE146.out) | exact HB.out)) hb); have n3_ := Aside0.mk (hbox); have n4_ := Aside0.mk ((by rw [hg]; exact (below_size (by repeat (first | (with_reducible first | exact HB.out | apply below_alloc | apply pw_below_drewN | apply below_drew1 | refine below_set ?_ GE145.out | refine below_set ?_ GE146.out) | exact HB.out))) : w.heap.size ≤ gb147)); have n5_ := Aside0.mk ((by rw [hg]; exact (below_size (by repeat (first | (with_reducible first | exact HB.out | apply below_alloc | apply pw_below_drewN | apply below_drew1 | refine below_set ?_ GE145.out | refine below_set ?_ GE146.out) | exact HB.out))) : w.heap.size ≤ gb147)); have n6_ := Aside0.mk ((by rw [hg]; exact Nat.ne_of_lt (blk_lt (g := gb145) (o := .cells #[.int .i64 a0_0, .int .i64 a0_1, .int .i64 a0_2, .int .i64 a0_3, .string a0_4, .string a0_5] 26 (0, 0)) (by (with_reducible repeat (first | refine blk_drewN ?_ _ | refine blk_drew ?_ | refine blk_alloc ?_ _)); exact BK145.out)) : gb145 ≠ gb147)); have n7_ := Aside0.mk ((by rw [hg]; exact Nat.ne_of_gt (blk_lt (g := gb145) (o := .cells #[.int .i64 a0_0, .int .i64 a0_1, .int .i64 a0_2, .int .i64 a0_3, .string a0_4, .string a0_5] 26 (0, 0)) (by (with_reducible repeat (first | refine blk_drewN ?_ _ | refine blk_drew ?_ | refine blk_alloc ?_ _)); exact BK145.out)) : gb147 ≠ gb145)); have n8_ := Aside0.mk ((by rw [hg]; exact Nat.ne_of_lt (blk_lt (g := gb146) (o := .cells #[.int .i64 a1_0, .int .i64 a1_1, .int .i64 a1_2, .int .i64 a1_3, .string a1_4, .string a1_5] 26 (0, 0)) (by (with_reducible repeat (first | refine blk_drewN ?_ _ | refine blk_drew ?_ | refine blk_alloc ?_ _)); exact BK146.out)) : gb146 ≠ gb147)); have n9_ := Aside0.mk ((by rw [hg]; exact Nat.ne_of_gt (blk_lt (g := gb146) (o := .cells #[.int .i64 a1_0, .int .i64 a1_1, .int .i64 a1_2, .int .i64 a1_3, .string a1_4, .string a1_5] 26 (0, 0)) (by (with_reducible repeat (first | refine blk_drewN ?_ _ | refine blk_drew ?_ | refine blk_alloc ?_ _)); exact BK146.out)) : gb147 ≠ gb146)); clear BK145; clear BK146; clear HB; have BK145 := n0_; have BK146 := n1_; have HB := n2_; have BK147 := n3_; have GW147 := n4_; have GE147 := n5_; have NB145_147 := n6_; have NB147_145 := n7_; have NB146_147 := n8_; have NB147_146 := n9_; clear n0_ n1_ n2_ n3_ n4_ n5_ n6_ n7_ n8_ n9_; clear hb hbox hg) | ((with_reducible refine gate_dst (N := 5) rfl ?_); refine box_event ?hg (N := 5) ?hd (cs := #[.int .i64 0, .int .i64 0, .int .i64 0, .int .i64 0]) (t := 24) ?hr ?_; (case hd => rfl); (case hg => rfl); (case hr => first | (go_simp; done) | (go_simp; rfl)); intro gb148 hg w7 hbox hb; have n0_ := Aside0.mk (blk_below (g := gb145) (o := .cells #[.int .i64 a0_0, .int .i64 a0_1, .int .i64 a0_2, .int .i64 a0_3, .string a0_4, .string a0_5] 26 (0, 0)) (by (with_reducible repeat (first | refine blk_drewN ?_ _ | refine blk_drew ?_ | refine blk_alloc ?_ _)); exact BK145.out) hb); have n1_ := Aside0.mk (blk_below (g := gb146) (o := .cells #[.int .i64 a1_0, .int .i64 a1_1, .int .i64 a1_2, .int .i64 a1_3, .string a1_4, .string a1_5] 26 (0, 0)) (by (with_reducible repeat (first | refine blk_drewN ?_ _ | refine blk_drew ?_ | refine blk_alloc ?_ _)); exact BK146.out) hb); have n2_ := Aside0.mk (blk_below (g := gb147) (o := .cells #[.int .i64 0, .int .i64 0, .int .i64 0, .int .i64 0, .string (⟨#[]⟩ : ByteArray), .string (⟨#[]⟩ : ByteArray)] 26 (0, 0)) (by (with_reducible repeat (first | refine blk_drewN ?_ _ | refine blk_drew ?_ | refine blk_alloc ?_ _)); exact BK147.out) hb); have n3_ := Aside0.mk (below_step (by repeat (first | (with_reducible first | exact HB.out | apply below_alloc | apply pw_below_drewN | apply below_drew1 | refine below_set ?_ GE145.out | refine below_set ?_ GE146.out | refine below_set ?_ GE147.out) | exact HB.out)) hb); have n4_ := Aside0.mk (hbox); have n5_ := Aside0.mk ((by rw [hg]; exact (below_size (by repeat (first | (with_reducible first | exact HB.out | apply below_alloc | apply pw_below_drewN | apply below_drew1 | refine below_set ?_ GE145.out | refine below_set ?_ GE146.out | refine below_set ?_ GE147.out) | exact HB.out))) : w.heap.size ≤ gb148)); have n6_ := Aside0.mk ((by rw [hg]; exact (below_size (by repeat (first | (with_reducible first | exact HB.out | apply below_alloc | apply pw_below_drewN | apply below_drew1 | refine below_set ?_ GE145.out | refine below_set ?_ GE146.out | refine below_set ?_ GE147.out) | exact HB.out))) : w.heap.size ≤ gb148)); have n7_ := Aside0.mk ((by rw [hg]; exact Nat.ne_of_lt (blk_lt (g := gb145) (o := .cells #[.int .i64 a0_0, .int .i64 a0_1, .int .i64 a0_2, .int .i64 a0_3, .string a0_4, .string a0_5] 26 (0, 0)) (by (with_reducible repeat (first | refine blk_drewN ?_ _ | refine blk_drew ?_ | refine blk_alloc ?_ _)); exact BK145.out)) : gb145 ≠ gb148)); have n8_ := Aside0.mk ((by rw [hg]; exact Nat.ne_of_gt (blk_lt (g := gb145) (o := .cells #[.int .i64 a0_0, .int .i64 a0_1, .int .i64 a0_2, .int .i64 a0_3, .string a0_4, .string a0_5] 26 (0, 0)) (by (with_reducible repeat (first | refine blk_drewN ?_ _ | refine blk_drew ?_ | refine blk_alloc ?_ _)); exact BK145.out)) : gb148 ≠ gb145)); have n9_ := Aside0.mk ((by rw [hg]; exact Nat.ne_of_lt (blk_lt (g := gb146) (o := .cells #[.int .i64 a1_0, .int .i64 a1_1, .int .i64 a1_2, .int .i64 a1_3, .string a1_4, .string a1_5] 26 (0, 0)) (by (with_reducible repeat (first | refine blk_drewN ?_ _ | refine blk_drew ?_ | refine blk_alloc ?_ _)); exact BK146.out)) : gb146 ≠ gb148)); have n10_ := Aside0.mk ((by rw [hg]; exact Nat.ne_of_gt (blk_lt (g := gb146) (o := .cells #[.int .i64 a1_0, .int .i64 a1_1, .int .i64 a1_2, .int .i64 a1_3, .string a1_4, .string a1_5] 26 (0, 0)) (by (with_reducible repeat (first | refine blk_drewN ?_ _ | refine blk_drew ?_ | refine blk_alloc ?_ _)); exact BK146.out)) : gb148 ≠ gb146)); have n11_ := Aside0.mk ((by rw [hg]; exact Nat.ne_of_lt (blk_lt (g := gb147) (o := .cells #[.int .i64 0, .int .i64 0, .int .i64 0, .int .i64 0, .string (⟨#[]⟩ : ByteArray), .string (⟨#[]⟩ : ByteArray)] 26 (0, 0)) (by (with_reducible repeat (first | refine blk_drewN ?_ _ | refine blk_drew ?_ | refine blk_alloc ?_ _)); exact BK147.out)) : gb147 ≠ gb148)); have n12_ := Aside0.mk ((by rw [hg]; exact Nat.ne_of_gt (blk_lt (g := gb147) (o := .cells #[.int .i64 0, .int .i64 0, .int .i64 0, .int .i64 0, .string (⟨#[]⟩ : ByteArray), .string (⟨#[]⟩ : ByteArray)] 26 (0, 0)) (by (with_reducible repeat (first | refine blk_drewN ?_ _ | refine blk_drew ?_ | refine blk_alloc ?_ _)); exact BK147.out)) : gb148 ≠ gb147)); clear BK145; clear BK146; clear BK147; clear HB; have BK145 := n0_; have BK146 := n1_; have BK147 := n2_; have HB := n3_; have BK148 := n4_; have GW148 := n5_; have GE148 := n6_; have NB145_148 := n7_; have NB148_145 := n8_; have NB146_148 := n9_; have NB148_146 := n10_; have NB147_148 := n11_; have NB148_147 := n12_; clear n0_ n1_ n2_ n3_ n4_ n5_ n6_ n7_ n8_ n9_ n10_ n11_ n12_; clear hb hbox hg))
 (try simp only [Act.put, List.setIfInBounds_toArray, List.set_cons_zero, List.set_cons_succ])
 go_cut [9] (fun v9 wc => ∃ (kq : Nat) (x9_2 : Bool), v9 = .bool x9_2 ∧ Aside0 (weld_both.j0 kq x9_2 a0_0 a0_1 a0_2 a0_3 a0_4 a0_5 a1_0 a1_1 a1_2 a1_3 a1_4 a1_5 = some (r1, r2, r3, r4, r5, r6, r7, r8, r9, r10, r11)) ∧ Aside0 (kq ≤ k) ∧ Aside0 (wc.heap[gb145]? = some (.cells #[.int .i64 a0_0, .int .i64 a0_1, .int .i64 a0_2, .int .i64 a0_3, .string a0_4, .string a0_5] 26 (0, 0))) ∧ Aside0 (wc.heap[gb146]? = some (.cells #[.int .i64 a1_0, .int .i64 a1_1, .int .i64 a1_2, .int .i64 a1_3, .string a1_4, .string a1_5] 26 (0, 0))) ∧ Aside0 (wc.heap[gb147]? = some (.cells #[.int .i64 0, .int .i64 0, .int .i64 0, .int .i64 0, .string (⟨#[]⟩ : ByteArray), .string (⟨#[]⟩ : ByteArray)] 26 (0, 0))) ∧ Aside0 (wc.heap[gb148]? = some (.cells #[.int .i64 0, .int .i64 0, .int .i64 0, .int .i64 0] 24 (0, 0))) ∧ Aside0 (Below w.heap.size w wc))
 case first =>
  have H := HC3.out
  clear HC3
  replace H := Option.bind_eq_some_iff.mp H
  obtain ⟨t149, A80, H⟩ := H
  replace H : (if t149 = true then ((weld_Valid.f k a1_0 a1_1 a1_2 a1_3 a1_4 a1_5).bind fun t150 => (weld_both.j0 k (!t150) a0_0 a0_1 a0_2 a0_3 a0_4 a0_5 a1_0 a1_1 a1_2 a1_3 a1_4 a1_5)) else (weld_both.j0 k true a0_0 a0_1 a0_2 a0_3 a0_4 a0_5 a1_0 a1_1 a1_2 a1_3 a1_4 a1_5)) = some (r1, r2, r3, r4, r5, r6, r7, r8, r9, r10, r11) := H
  have A8 := Aside0.mk A80
  clear A80
  by_cases c9 : t149 = true
  ·subst c9
   have H1 : ((weld_Valid.f k a1_0 a1_1 a1_2 a1_3 a1_4 a1_5).bind fun t150 => (weld_both.j0 k (!t150) a0_0 a0_1 a0_2 a0_3 a0_4 a0_5 a1_0 a1_1 a1_2 a1_3 a1_4 a1_5)) = some (r1, r2, r3, r4, r5, r6, r7, r8, r9, r10, r11) := by rw [if_pos rfl] at H; exact H
   clear H
   have H := H1
   clear H1
   replace H := Option.bind_eq_some_iff.mp H
   obtain ⟨t150, A100, H⟩ := H
   replace H : (weld_both.j0 k (!t150) a0_0 a0_1 a0_2 a0_3 a0_4 a0_5 a1_0 a1_1 a1_2 a1_3 a1_4 a1_5) = some (r1, r2, r3, r4, r5, r6, r7, r8, r9, r10, r11) := H
   have A10 := Aside0.mk A100
   clear A100
   have H' := Aside0.mk H
   clear H
   have hnb11 := NB145_146.out
   have hnc11 := NB146_145.out
   have hnb12 := NB145_147.out
   have hnc12 := NB147_145.out
   have hnb13 := NB145_148.out
   have hnc13 := NB148_145.out
   have hcz14_0 : w7.cell? ⟨gb145, 0, none⟩ = some (.int .i64 a0_0) := (blk_cell BK145.out 0).trans rfl
   have hcz14_1 : w7.cell? ⟨gb145, 1, none⟩ = some (.int .i64 a0_1) := (blk_cell BK145.out 1).trans rfl
   have hcz14_2 : w7.cell? ⟨gb145, 2, none⟩ = some (.int .i64 a0_2) := (blk_cell BK145.out 2).trans rfl
   have hcz14_3 : w7.cell? ⟨gb145, 3, none⟩ = some (.int .i64 a0_3) := (blk_cell BK145.out 3).trans rfl
   have hcz14_4 : w7.cell? ⟨gb145, 4, none⟩ = some (.string a0_4) := (blk_cell BK145.out 4).trans rfl
   have hcz14_5 : w7.cell? ⟨gb145, 5, none⟩ = some (.string a0_5) := (blk_cell BK145.out 5).trans rfl
   have hfz14_0 := blk_frozen BK145.out 0
   have hfz14_1 := blk_frozen BK145.out 1
   have hfz14_2 := blk_frozen BK145.out 2
   have hfz14_3 := blk_frozen BK145.out 3
   have hfz14_4 := blk_frozen BK145.out 4
   have hfz14_5 := blk_frozen BK145.out 5
   go_wp2_with (first | ((with_reducible refine gate_callee (f := 11) rfl ?_); refine goesL_ (some 11) rfl rfl Tryd.func11 (by kernel_rfl) rfl #[.agg #[.int .i64 a0_0, .int .i64 a0_1, .int .i64 a0_2, .int .i64 a0_3, .string a0_4, .string a0_5]] rfl (by (try simp only [List.map_toArray, List.map_cons, List.map_nil]); first | done | rfl | (simp only [List.length_drop, List.length_take]; rfl)) ?_; (with_reducible refine (weld_Valid.calls k a0_0 a0_1 a0_2 a0_3 a0_4 a0_5 true _ ?side1 A8.out).mono ?_); (case side1 => first | (with_reducible exact HG.out) | exact Glob.Globs_below HG.out (by repeat (first | (with_reducible first | exact HB.out | apply below_alloc | apply pw_below_drewN | apply below_drew1 | refine below_set ?_ GE145.out | refine below_set ?_ GE146.out | refine below_set ?_ GE147.out | refine below_set ?_ GE148.out) | exact HB.out))); rintro e w15 ⟨rfl, hb⟩; refine ⟨_, rfl, ?_⟩; have n0_ := Aside0.mk (blk_below (g := gb145) (o := .cells #[.int .i64 a0_0, .int .i64 a0_1, .int .i64 a0_2, .int .i64 a0_3, .string a0_4, .string a0_5] 26 (0, 0)) (by (with_reducible repeat (first | refine blk_drewN ?_ _ | refine blk_drew ?_ | refine blk_alloc ?_ _)); exact BK145.out) hb); have n1_ := Aside0.mk (blk_below (g := gb146) (o := .cells #[.int .i64 a1_0, .int .i64 a1_1, .int .i64 a1_2, .int .i64 a1_3, .string a1_4, .string a1_5] 26 (0, 0)) (by (with_reducible repeat (first | refine blk_drewN ?_ _ | refine blk_drew ?_ | refine blk_alloc ?_ _)); exact BK146.out) hb); have n2_ := Aside0.mk (blk_below (g := gb147) (o := .cells #[.int .i64 0, .int .i64 0, .int .i64 0, .int .i64 0, .string (⟨#[]⟩ : ByteArray), .string (⟨#[]⟩ : ByteArray)] 26 (0, 0)) (by (with_reducible repeat (first | refine blk_drewN ?_ _ | refine blk_drew ?_ | refine blk_alloc ?_ _)); exact BK147.out) hb); have n3_ := Aside0.mk (blk_below (g := gb148) (o := .cells #[.int .i64 0, .int .i64 0, .int .i64 0, .int .i64 0] 24 (0, 0)) (by (with_reducible repeat (first | refine blk_drewN ?_ _ | refine blk_drew ?_ | refine blk_alloc ?_ _)); exact BK148.out) hb); have n4_ := Aside0.mk (below_step (by repeat (first | (with_reducible first | exact HB.out | apply below_alloc | apply pw_below_drewN | apply below_drew1 | refine below_set ?_ GE145.out | refine below_set ?_ GE146.out | refine below_set ?_ GE147.out | refine below_set ?_ GE148.out) | exact HB.out)) hb); clear BK145; clear BK146; clear BK147; clear BK148; clear HB; have BK145 := n0_; have BK146 := n1_; have BK147 := n2_; have BK148 := n3_; have HB := n4_; clear n0_ n1_ n2_ n3_ n4_; (try clear hb); (try clear hb2); (try clear hk); (try clear hi); have hnb16 := NB146_147.out; have hnc16 := NB147_146.out; have hnb17 := NB146_148.out; have hnc17 := NB148_146.out; have hcz18_0 : w15.cell? ⟨gb146, 0, none⟩ = some (.int .i64 a1_0) := (blk_cell BK146.out 0).trans rfl; have hcz18_1 : w15.cell? ⟨gb146, 1, none⟩ = some (.int .i64 a1_1) := (blk_cell BK146.out 1).trans rfl; have hcz18_2 : w15.cell? ⟨gb146, 2, none⟩ = some (.int .i64 a1_2) := (blk_cell BK146.out 2).trans rfl; have hcz18_3 : w15.cell? ⟨gb146, 3, none⟩ = some (.int .i64 a1_3) := (blk_cell BK146.out 3).trans rfl; have hcz18_4 : w15.cell? ⟨gb146, 4, none⟩ = some (.string a1_4) := (blk_cell BK146.out 4).trans rfl; have hcz18_5 : w15.cell? ⟨gb146, 5, none⟩ = some (.string a1_5) := (blk_cell BK146.out 5).trans rfl; have hfz18_0 := blk_frozen BK146.out 0; have hfz18_1 := blk_frozen BK146.out 1; have hfz18_2 := blk_frozen BK146.out 2; have hfz18_3 := blk_frozen BK146.out 3; have hfz18_4 := blk_frozen BK146.out 4; have hfz18_5 := blk_frozen BK146.out 5) | (go_at_call 11; (with_reducible refine (weld_Valid.calls k a1_0 a1_1 a1_2 a1_3 a1_4 a1_5 t150 _ ?side1 A10.out).mono ?_); (case side1 => first | (with_reducible exact HG.out) | exact Glob.Globs_below HG.out (by repeat (first | (with_reducible first | exact HB.out | apply below_alloc | apply pw_below_drewN | apply below_drew1 | refine below_set ?_ GE145.out | refine below_set ?_ GE146.out | refine below_set ?_ GE147.out | refine below_set ?_ GE148.out) | exact HB.out))); rintro e w19 ⟨rfl, hb⟩; have n0_ := Aside0.mk (blk_below (g := gb145) (o := .cells #[.int .i64 a0_0, .int .i64 a0_1, .int .i64 a0_2, .int .i64 a0_3, .string a0_4, .string a0_5] 26 (0, 0)) (by (with_reducible repeat (first | refine blk_drewN ?_ _ | refine blk_drew ?_ | refine blk_alloc ?_ _)); exact BK145.out) hb); have n1_ := Aside0.mk (blk_below (g := gb146) (o := .cells #[.int .i64 a1_0, .int .i64 a1_1, .int .i64 a1_2, .int .i64 a1_3, .string a1_4, .string a1_5] 26 (0, 0)) (by (with_reducible repeat (first | refine blk_drewN ?_ _ | refine blk_drew ?_ | refine blk_alloc ?_ _)); exact BK146.out) hb); have n2_ := Aside0.mk (blk_below (g := gb147) (o := .cells #[.int .i64 0, .int .i64 0, .int .i64 0, .int .i64 0, .string (⟨#[]⟩ : ByteArray), .string (⟨#[]⟩ : ByteArray)] 26 (0, 0)) (by (with_reducible repeat (first | refine blk_drewN ?_ _ | refine blk_drew ?_ | refine blk_alloc ?_ _)); exact BK147.out) hb); have n3_ := Aside0.mk (blk_below (g := gb148) (o := .cells #[.int .i64 0, .int .i64 0, .int .i64 0, .int .i64 0] 24 (0, 0)) (by (with_reducible repeat (first | refine blk_drewN ?_ _ | refine blk_drew ?_ | refine blk_alloc ?_ _)); exact BK148.out) hb); have n4_ := Aside0.mk (below_step (by repeat (first | (with_reducible first | exact HB.out | apply below_alloc | apply pw_below_drewN | apply below_drew1 | refine below_set ?_ GE145.out | refine below_set ?_ GE146.out | refine below_set ?_ GE147.out | refine below_set ?_ GE148.out) | exact HB.out)) hb); clear BK145; clear BK146; clear BK147; clear BK148; clear HB; have BK145 := n0_; have BK146 := n1_; have BK147 := n2_; have BK148 := n3_; have HB := n4_; clear n0_ n1_ n2_ n3_ n4_; (try clear hb); (try clear hb2); (try clear hk); (try clear hi)))
   go_meet
   case rel => exact ⟨_, (!t150), (by first | rfl | (simp; done) | (simp [*]; done)), H', ⟨by first | omega | exact Nat.le_refl _⟩, ⟨by (with_reducible repeat (first | refine blk_drewN ?_ _ | refine blk_drew ?_ | refine blk_alloc ?_ _)); exact BK145.out⟩, ⟨by (with_reducible repeat (first | refine blk_drewN ?_ _ | refine blk_drew ?_ | refine blk_alloc ?_ _)); exact BK146.out⟩, ⟨by (with_reducible repeat (first | refine blk_drewN ?_ _ | refine blk_drew ?_ | refine blk_alloc ?_ _)); exact BK147.out⟩, ⟨by (with_reducible repeat (first | refine blk_drewN ?_ _ | refine blk_drew ?_ | refine blk_alloc ?_ _)); exact BK148.out⟩, ⟨by repeat (first | (with_reducible first | exact HB.out | apply below_alloc | apply pw_below_drewN | apply below_drew1 | refine below_set ?_ GE145.out | refine below_set ?_ GE146.out | refine below_set ?_ GE147.out | refine below_set ?_ GE148.out) | exact HB.out)⟩⟩
  ·replace c9 := Bool.eq_false_iff.mpr c9
   subst c9
   have H1 : (weld_both.j0 k true a0_0 a0_1 a0_2 a0_3 a0_4 a0_5 a1_0 a1_1 a1_2 a1_3 a1_4 a1_5) = some (r1, r2, r3, r4, r5, r6, r7, r8, r9, r10, r11) := by rw [if_neg (show ¬ (false = true) by decide)] at H; exact H
   clear H
   have H := H1
   clear H1
   have H' := Aside0.mk H
   clear H
   have hnb20 := NB145_146.out
   have hnc20 := NB146_145.out
   have hnb21 := NB145_147.out
   have hnc21 := NB147_145.out
   have hnb22 := NB145_148.out
   have hnc22 := NB148_145.out
   have hcz23_0 : w7.cell? ⟨gb145, 0, none⟩ = some (.int .i64 a0_0) := (blk_cell BK145.out 0).trans rfl
   have hcz23_1 : w7.cell? ⟨gb145, 1, none⟩ = some (.int .i64 a0_1) := (blk_cell BK145.out 1).trans rfl
   have hcz23_2 : w7.cell? ⟨gb145, 2, none⟩ = some (.int .i64 a0_2) := (blk_cell BK145.out 2).trans rfl
   have hcz23_3 : w7.cell? ⟨gb145, 3, none⟩ = some (.int .i64 a0_3) := (blk_cell BK145.out 3).trans rfl
   have hcz23_4 : w7.cell? ⟨gb145, 4, none⟩ = some (.string a0_4) := (blk_cell BK145.out 4).trans rfl
   have hcz23_5 : w7.cell? ⟨gb145, 5, none⟩ = some (.string a0_5) := (blk_cell BK145.out 5).trans rfl
   have hfz23_0 := blk_frozen BK145.out 0
   have hfz23_1 := blk_frozen BK145.out 1
   have hfz23_2 := blk_frozen BK145.out 2
   have hfz23_3 := blk_frozen BK145.out 3
   have hfz23_4 := blk_frozen BK145.out 4
   have hfz23_5 := blk_frozen BK145.out 5
   go_wp2_with (first | ((with_reducible refine gate_callee (f := 11) rfl ?_); refine goesL_ (some 11) rfl rfl Tryd.func11 (by kernel_rfl) rfl #[.agg #[.int .i64 a0_0, .int .i64 a0_1, .int .i64 a0_2, .int .i64 a0_3, .string a0_4, .string a0_5]] rfl (by (try simp only [List.map_toArray, List.map_cons, List.map_nil]); first | done | rfl | (simp only [List.length_drop, List.length_take]; rfl)) ?_; (with_reducible refine (weld_Valid.calls k a0_0 a0_1 a0_2 a0_3 a0_4 a0_5 false _ ?side1 A8.out).mono ?_); (case side1 => first | (with_reducible exact HG.out) | exact Glob.Globs_below HG.out (by repeat (first | (with_reducible first | exact HB.out | apply below_alloc | apply pw_below_drewN | apply below_drew1 | refine below_set ?_ GE145.out | refine below_set ?_ GE146.out | refine below_set ?_ GE147.out | refine below_set ?_ GE148.out) | exact HB.out))); rintro e w24 ⟨rfl, hb⟩; refine ⟨_, rfl, ?_⟩; have n0_ := Aside0.mk (blk_below (g := gb145) (o := .cells #[.int .i64 a0_0, .int .i64 a0_1, .int .i64 a0_2, .int .i64 a0_3, .string a0_4, .string a0_5] 26 (0, 0)) (by (with_reducible repeat (first | refine blk_drewN ?_ _ | refine blk_drew ?_ | refine blk_alloc ?_ _)); exact BK145.out) hb); have n1_ := Aside0.mk (blk_below (g := gb146) (o := .cells #[.int .i64 a1_0, .int .i64 a1_1, .int .i64 a1_2, .int .i64 a1_3, .string a1_4, .string a1_5] 26 (0, 0)) (by (with_reducible repeat (first | refine blk_drewN ?_ _ | refine blk_drew ?_ | refine blk_alloc ?_ _)); exact BK146.out) hb); have n2_ := Aside0.mk (blk_below (g := gb147) (o := .cells #[.int .i64 0, .int .i64 0, .int .i64 0, .int .i64 0, .string (⟨#[]⟩ : ByteArray), .string (⟨#[]⟩ : ByteArray)] 26 (0, 0)) (by (with_reducible repeat (first | refine blk_drewN ?_ _ | refine blk_drew ?_ | refine blk_alloc ?_ _)); exact BK147.out) hb); have n3_ := Aside0.mk (blk_below (g := gb148) (o := .cells #[.int .i64 0, .int .i64 0, .int .i64 0, .int .i64 0] 24 (0, 0)) (by (with_reducible repeat (first | refine blk_drewN ?_ _ | refine blk_drew ?_ | refine blk_alloc ?_ _)); exact BK148.out) hb); have n4_ := Aside0.mk (below_step (by repeat (first | (with_reducible first | exact HB.out | apply below_alloc | apply pw_below_drewN | apply below_drew1 | refine below_set ?_ GE145.out | refine below_set ?_ GE146.out | refine below_set ?_ GE147.out | refine below_set ?_ GE148.out) | exact HB.out)) hb); clear BK145; clear BK146; clear BK147; clear BK148; clear HB; have BK145 := n0_; have BK146 := n1_; have BK147 := n2_; have BK148 := n3_; have HB := n4_; clear n0_ n1_ n2_ n3_ n4_; (try clear hb); (try clear hb2); (try clear hk); (try clear hi)))
   go_meet
   case rel => exact ⟨_, (true), (by first | rfl | (simp; done) | (simp [*]; done)), H', ⟨by first | omega | exact Nat.le_refl _⟩, ⟨by (with_reducible repeat (first | refine blk_drewN ?_ _ | refine blk_drew ?_ | refine blk_alloc ?_ _)); exact BK145.out⟩, ⟨by (with_reducible repeat (first | refine blk_drewN ?_ _ | refine blk_drew ?_ | refine blk_alloc ?_ _)); exact BK146.out⟩, ⟨by (with_reducible repeat (first | refine blk_drewN ?_ _ | refine blk_drew ?_ | refine blk_alloc ?_ _)); exact BK147.out⟩, ⟨by (with_reducible repeat (first | refine blk_drewN ?_ _ | refine blk_drew ?_ | refine blk_alloc ?_ _)); exact BK148.out⟩, ⟨by repeat (first | (with_reducible first | exact HB.out | apply below_alloc | apply pw_below_drewN | apply below_drew1 | refine below_set ?_ GE145.out | refine below_set ?_ GE146.out | refine below_set ?_ GE147.out | refine below_set ?_ GE148.out) | exact HB.out)⟩⟩
 case rest =>
  clear HC3
  try clear c1
  try clear c2
  try clear p2
  try clear c3
  try clear c9
  try clear c11
  try clear c12
  try clear c13
  try clear c16
  try clear c17
  try clear c20
  try clear c21
  try clear c22
  try clear hcz14_0
  try clear hcz14_1
  try clear hcz14_2
  try clear hcz14_3
  try clear hcz14_4
  try clear hcz14_5
  try clear hcz18_0
  try clear hcz18_1
  try clear hcz18_2
  try clear hcz18_3
  try clear hcz18_4
  try clear hcz18_5
  try clear hcz23_0
  try clear hcz23_1
  try clear hcz23_2
  try clear hcz23_3
  try clear hcz23_4
  try clear hcz23_5
  try clear hfz14_0
  try clear hfz14_1
  try clear hfz14_2
  try clear hfz14_3
  try clear hfz14_4
  try clear hfz14_5
  try clear hfz18_0
  try clear hfz18_1
  try clear hfz18_2
  try clear hfz18_3
  try clear hfz18_4
  try clear hfz18_5
  try clear hfz23_0
  try clear hfz23_1
  try clear hfz23_2
  try clear hfz23_3
  try clear hfz23_4
  try clear hfz23_5
  obtain ⟨kq, x9_2, rfl, HA, HJ2, BK145, BK146, BK147, BK148, HB⟩ := hcut
  cases kq with
  | zero => exact absurd HA.out (by simp [weld_both.j0])
  | succ kj2 =>
   have H := HA.out
   clear HA
   simp only [weld_both.j0] at H
   by_cases c25 : x9_2 = true
   ·subst c25
    have H1 : (some (0, 0, 0, 0, (⟨#[]⟩ : ByteArray), (⟨#[]⟩ : ByteArray), 0, 0, 0, 0, 50)) = some (r1, r2, r3, r4, r5, r6, r7, r8, r9, r10, r11) := by rw [if_pos rfl] at H; exact H
    clear H
    have H := H1
    clear H1
    simp only [Option.some.injEq, Prod.mk.injEq] at H
    obtain ⟨rfl, rfl, rfl, rfl, rfl, rfl, rfl, rfl, rfl, rfl, rfl⟩ := H
    have hnb26 := NB147_145.out
    have hnc26 := NB145_147.out
    have hnb27 := NB147_146.out
    have hnc27 := NB146_147.out
    have hnb28 := NB147_148.out
    have hnc28 := NB148_147.out
    have hcz29_0 : wc.cell? ⟨gb147, 0, none⟩ = some (.int .i64 0) := (blk_cell BK147.out 0).trans rfl
    have hcz29_1 : wc.cell? ⟨gb147, 1, none⟩ = some (.int .i64 0) := (blk_cell BK147.out 1).trans rfl
    have hcz29_2 : wc.cell? ⟨gb147, 2, none⟩ = some (.int .i64 0) := (blk_cell BK147.out 2).trans rfl
    have hcz29_3 : wc.cell? ⟨gb147, 3, none⟩ = some (.int .i64 0) := (blk_cell BK147.out 3).trans rfl
    have hcz29_4 : wc.cell? ⟨gb147, 4, none⟩ = some (.string (⟨#[]⟩ : ByteArray)) := (blk_cell BK147.out 4).trans rfl
    have hcz29_5 : wc.cell? ⟨gb147, 5, none⟩ = some (.string (⟨#[]⟩ : ByteArray)) := (blk_cell BK147.out 5).trans rfl
    have hfz29_0 := blk_frozen BK147.out 0
    have hfz29_1 := blk_frozen BK147.out 1
    have hfz29_2 := blk_frozen BK147.out 2
    have hfz29_3 := blk_frozen BK147.out 3
    have hfz29_4 := blk_frozen BK147.out 4
    have hfz29_5 := blk_frozen BK147.out 5
    have hnb30 := NB148_145.out
    have hnc30 := NB145_148.out
    have hnb31 := NB148_146.out
    have hnc31 := NB146_148.out
    have hcz32_0 : wc.cell? ⟨gb148, 0, none⟩ = some (.int .i64 0) := (blk_cell BK148.out 0).trans rfl
    have hcz32_1 : wc.cell? ⟨gb148, 1, none⟩ = some (.int .i64 0) := (blk_cell BK148.out 1).trans rfl
    have hcz32_2 : wc.cell? ⟨gb148, 2, none⟩ = some (.int .i64 0) := (blk_cell BK148.out 2).trans rfl
    have hcz32_3 : wc.cell? ⟨gb148, 3, none⟩ = some (.int .i64 0) := (blk_cell BK148.out 3).trans rfl
    have hfz32_0 := blk_frozen BK148.out 0
    have hfz32_1 := blk_frozen BK148.out 1
    have hfz32_2 := blk_frozen BK148.out 2
    have hfz32_3 := blk_frozen BK148.out 3
    go_wp2
    refine bodyPost_ret (results_list (rs := [.cell 4 26, .cell 5 24, .tmp 6]) rfl (by simp) (.cell gb147 26 #[.int .i64 0, .int .i64 0, .int .i64 0, .int .i64 0, .string (⟨#[]⟩ : ByteArray), .string (⟨#[]⟩ : ByteArray)] (0, 0) _ rfl (by (with_reducible repeat (first | refine blk_drewN ?_ _ | refine blk_drew ?_ | refine blk_alloc ?_ _)); refine blk_far ?_ NB147_148.out _; (with_reducible repeat (first | refine blk_drewN ?_ _ | refine blk_drew ?_ | refine blk_alloc ?_ _)); refine blk_far ?_ NB147_148.out _; (with_reducible repeat (first | refine blk_drewN ?_ _ | refine blk_drew ?_ | refine blk_alloc ?_ _)); refine blk_far ?_ NB147_148.out _; (with_reducible repeat (first | refine blk_drewN ?_ _ | refine blk_drew ?_ | refine blk_alloc ?_ _)); refine blk_far ?_ NB147_148.out _; (with_reducible repeat (first | refine blk_drewN ?_ _ | refine blk_drew ?_ | refine blk_alloc ?_ _)); refine blk_put (cs := #[.int .i64 0, .int .i64 0, .int .i64 0, .int .i64 0, .string (⟨#[]⟩ : ByteArray), .string (⟨#[]⟩ : ByteArray)]) ?_ 5 _ rfl; (with_reducible repeat (first | refine blk_drewN ?_ _ | refine blk_drew ?_ | refine blk_alloc ?_ _)); refine blk_put (cs := #[.int .i64 0, .int .i64 0, .int .i64 0, .int .i64 0, .string (⟨#[]⟩ : ByteArray), .string (⟨#[]⟩ : ByteArray)]) ?_ 4 _ rfl; (with_reducible repeat (first | refine blk_drewN ?_ _ | refine blk_drew ?_ | refine blk_alloc ?_ _)); refine blk_put (cs := #[.int .i64 0, .int .i64 0, .int .i64 0, .int .i64 0, .string (⟨#[]⟩ : ByteArray), .string (⟨#[]⟩ : ByteArray)]) ?_ 3 _ rfl; (with_reducible repeat (first | refine blk_drewN ?_ _ | refine blk_drew ?_ | refine blk_alloc ?_ _)); refine blk_put (cs := #[.int .i64 0, .int .i64 0, .int .i64 0, .int .i64 0, .string (⟨#[]⟩ : ByteArray), .string (⟨#[]⟩ : ByteArray)]) ?_ 2 _ rfl; (with_reducible repeat (first | refine blk_drewN ?_ _ | refine blk_drew ?_ | refine blk_alloc ?_ _)); refine blk_put (cs := #[.int .i64 0, .int .i64 0, .int .i64 0, .int .i64 0, .string (⟨#[]⟩ : ByteArray), .string (⟨#[]⟩ : ByteArray)]) ?_ 1 _ rfl; (with_reducible repeat (first | refine blk_drewN ?_ _ | refine blk_drew ?_ | refine blk_alloc ?_ _)); refine blk_put (cs := #[.int .i64 0, .int .i64 0, .int .i64 0, .int .i64 0, .string (⟨#[]⟩ : ByteArray), .string (⟨#[]⟩ : ByteArray)]) ?_ 0 _ rfl; (with_reducible repeat (first | refine blk_drewN ?_ _ | refine blk_drew ?_ | refine blk_alloc ?_ _)); exact BK147.out) Tryd.underlying26 rfl (by kernel_rfl) (.cell gb148 24 #[.int .i64 0, .int .i64 0, .int .i64 0, .int .i64 0] (0, 0) _ rfl (by (with_reducible repeat (first | refine blk_drewN ?_ _ | refine blk_drew ?_ | refine blk_alloc ?_ _)); refine blk_put (cs := #[.int .i64 0, .int .i64 0, .int .i64 0, .int .i64 0]) ?_ 3 _ rfl; (with_reducible repeat (first | refine blk_drewN ?_ _ | refine blk_drew ?_ | refine blk_alloc ?_ _)); refine blk_put (cs := #[.int .i64 0, .int .i64 0, .int .i64 0, .int .i64 0]) ?_ 2 _ rfl; (with_reducible repeat (first | refine blk_drewN ?_ _ | refine blk_drew ?_ | refine blk_alloc ?_ _)); refine blk_put (cs := #[.int .i64 0, .int .i64 0, .int .i64 0, .int .i64 0]) ?_ 1 _ rfl; (with_reducible repeat (first | refine blk_drewN ?_ _ | refine blk_drew ?_ | refine blk_alloc ?_ _)); refine blk_put (cs := #[.int .i64 0, .int .i64 0, .int .i64 0, .int .i64 0]) ?_ 0 _ rfl; (with_reducible repeat (first | refine blk_drewN ?_ _ | refine blk_drew ?_ | refine blk_alloc ?_ _)); refine blk_far ?_ NB148_147.out _; (with_reducible repeat (first | refine blk_drewN ?_ _ | refine blk_drew ?_ | refine blk_alloc ?_ _)); refine blk_far ?_ NB148_147.out _; (with_reducible repeat (first | refine blk_drewN ?_ _ | refine blk_drew ?_ | refine blk_alloc ?_ _)); refine blk_far ?_ NB148_147.out _; (with_reducible repeat (first | refine blk_drewN ?_ _ | refine blk_drew ?_ | refine blk_alloc ?_ _)); refine blk_far ?_ NB148_147.out _; (with_reducible repeat (first | refine blk_drewN ?_ _ | refine blk_drew ?_ | refine blk_alloc ?_ _)); refine blk_far ?_ NB148_147.out _; (with_reducible repeat (first | refine blk_drewN ?_ _ | refine blk_drew ?_ | refine blk_alloc ?_ _)); refine blk_far ?_ NB148_147.out _; (with_reducible repeat (first | refine blk_drewN ?_ _ | refine blk_drew ?_ | refine blk_alloc ?_ _)); exact BK148.out) Tryd.underlying24 rfl (by kernel_rfl) (.tmp .nil)))) rfl ?_
    exact ⟨by first | rfl | (simp [*] <;> rfl), by repeat (first | (with_reducible first | exact HB.out | apply below_alloc | apply pw_below_drewN | apply below_drew1 | refine below_set ?_ GE145.out | refine below_set ?_ GE146.out | refine below_set ?_ GE147.out | refine below_set ?_ GE148.out) | exact HB.out)⟩
   ·replace c25 := Bool.eq_false_iff.mpr c25
    subst c25
    have H1 : (if (wrap64 (a0_0 + a1_0)) > 268435456 then (some (0, 0, 0, 0, (⟨#[]⟩ : ByteArray), (⟨#[]⟩ : ByteArray), 0, 0, 0, 0, 5)) else ((weld_seam.f kj2 a0_0 a0_1 a0_2 a0_3 a0_4 a0_5 a1_0 a1_1 a1_2 a1_3 a1_4 a1_5).bind fun bt151 => ((weld_sum.f a0_0 a0_1 a0_2 a0_3 a1_0 a1_1 a1_2 a1_3 1).bind fun bt156 => ((weld_sum.f bt156.1 bt156.2.1 bt156.2.2.1 bt156.2.2.2 bt151.1 bt151.2.1 bt151.2.2.1 bt151.2.2.2 (-1)).bind fun bt160 => (if a0_0 < 3 then (if a0_4.size + a1_4.size ≤ 9223372036854775807 then ((weld_head.f (a0_4 ++ a1_4)).bind fun t165 => (weld_both.j1 kj2 a0_0 a0_1 a0_2 a0_3 a0_4 a0_5 a1_0 a1_1 a1_2 a1_3 a1_4 a1_5 bt151.1 bt151.2.1 bt151.2.2.1 bt151.2.2.2 bt160.1 bt160.2.1 bt160.2.2.1 bt160.2.2.2 t165 a1_5)) else (none)) else (weld_both.j1 kj2 a0_0 a0_1 a0_2 a0_3 a0_4 a0_5 a1_0 a1_1 a1_2 a1_3 a1_4 a1_5 bt151.1 bt151.2.1 bt151.2.2.1 bt151.2.2.2 bt160.1 bt160.2.1 bt160.2.2.1 bt160.2.2.2 a0_4 a1_5)))))) = some (r1, r2, r3, r4, r5, r6, r7, r8, r9, r10, r11) := by rw [if_neg (show ¬ (false = true) by decide)] at H; exact H
    clear H
    have H := H1
    clear H1
    by_cases c33 : (wrap64 (a0_0 + a1_0)) > 268435456
    ·rw [if_pos c33] at H
     have c33b0 : decide (268435456 < (wrap64 (a0_0 + a1_0))) = true := decide_eq_true c33
     clear c33
     simp only [Option.some.injEq, Prod.mk.injEq] at H
     obtain ⟨rfl, rfl, rfl, rfl, rfl, rfl, rfl, rfl, rfl, rfl, rfl⟩ := H
     have hnb34 := NB145_146.out
     have hnc34 := NB146_145.out
     have hnb35 := NB145_147.out
     have hnc35 := NB147_145.out
     have hnb36 := NB145_148.out
     have hnc36 := NB148_145.out
     have hcz37_0 : wc.cell? ⟨gb145, 0, none⟩ = some (.int .i64 a0_0) := (blk_cell BK145.out 0).trans rfl
     have hcz37_1 : wc.cell? ⟨gb145, 1, none⟩ = some (.int .i64 a0_1) := (blk_cell BK145.out 1).trans rfl
     have hcz37_2 : wc.cell? ⟨gb145, 2, none⟩ = some (.int .i64 a0_2) := (blk_cell BK145.out 2).trans rfl
     have hcz37_3 : wc.cell? ⟨gb145, 3, none⟩ = some (.int .i64 a0_3) := (blk_cell BK145.out 3).trans rfl
     have hcz37_4 : wc.cell? ⟨gb145, 4, none⟩ = some (.string a0_4) := (blk_cell BK145.out 4).trans rfl
     have hcz37_5 : wc.cell? ⟨gb145, 5, none⟩ = some (.string a0_5) := (blk_cell BK145.out 5).trans rfl
     have hfz37_0 := blk_frozen BK145.out 0
     have hfz37_1 := blk_frozen BK145.out 1
     have hfz37_2 := blk_frozen BK145.out 2
     have hfz37_3 := blk_frozen BK145.out 3
     have hfz37_4 := blk_frozen BK145.out 4
     have hfz37_5 := blk_frozen BK145.out 5
     have hnb38 := NB146_147.out
     have hnc38 := NB147_146.out
     have hnb39 := NB146_148.out
     have hnc39 := NB148_146.out
     have hcz40_0 : wc.cell? ⟨gb146, 0, none⟩ = some (.int .i64 a1_0) := (blk_cell BK146.out 0).trans rfl
     have hcz40_1 : wc.cell? ⟨gb146, 1, none⟩ = some (.int .i64 a1_1) := (blk_cell BK146.out 1).trans rfl
     have hcz40_2 : wc.cell? ⟨gb146, 2, none⟩ = some (.int .i64 a1_2) := (blk_cell BK146.out 2).trans rfl
     have hcz40_3 : wc.cell? ⟨gb146, 3, none⟩ = some (.int .i64 a1_3) := (blk_cell BK146.out 3).trans rfl
     have hcz40_4 : wc.cell? ⟨gb146, 4, none⟩ = some (.string a1_4) := (blk_cell BK146.out 4).trans rfl
     have hcz40_5 : wc.cell? ⟨gb146, 5, none⟩ = some (.string a1_5) := (blk_cell BK146.out 5).trans rfl
     have hfz40_0 := blk_frozen BK146.out 0
     have hfz40_1 := blk_frozen BK146.out 1
     have hfz40_2 := blk_frozen BK146.out 2
     have hfz40_3 := blk_frozen BK146.out 3
     have hfz40_4 := blk_frozen BK146.out 4
     have hfz40_5 := blk_frozen BK146.out 5
     have hnb41 := NB147_148.out
     have hnc41 := NB148_147.out
     have hcz42_0 : wc.cell? ⟨gb147, 0, none⟩ = some (.int .i64 0) := (blk_cell BK147.out 0).trans rfl
     have hcz42_1 : wc.cell? ⟨gb147, 1, none⟩ = some (.int .i64 0) := (blk_cell BK147.out 1).trans rfl
     have hcz42_2 : wc.cell? ⟨gb147, 2, none⟩ = some (.int .i64 0) := (blk_cell BK147.out 2).trans rfl
     have hcz42_3 : wc.cell? ⟨gb147, 3, none⟩ = some (.int .i64 0) := (blk_cell BK147.out 3).trans rfl
     have hcz42_4 : wc.cell? ⟨gb147, 4, none⟩ = some (.string (⟨#[]⟩ : ByteArray)) := (blk_cell BK147.out 4).trans rfl
     have hcz42_5 : wc.cell? ⟨gb147, 5, none⟩ = some (.string (⟨#[]⟩ : ByteArray)) := (blk_cell BK147.out 5).trans rfl
     have hfz42_0 := blk_frozen BK147.out 0
     have hfz42_1 := blk_frozen BK147.out 1
     have hfz42_2 := blk_frozen BK147.out 2
     have hfz42_3 := blk_frozen BK147.out 3
     have hfz42_4 := blk_frozen BK147.out 4
     have hfz42_5 := blk_frozen BK147.out 5
     have hcz43_0 : wc.cell? ⟨gb148, 0, none⟩ = some (.int .i64 0) := (blk_cell BK148.out 0).trans rfl
     have hcz43_1 : wc.cell? ⟨gb148, 1, none⟩ = some (.int .i64 0) := (blk_cell BK148.out 1).trans rfl
     have hcz43_2 : wc.cell? ⟨gb148, 2, none⟩ = some (.int .i64 0) := (blk_cell BK148.out 2).trans rfl
     have hcz43_3 : wc.cell? ⟨gb148, 3, none⟩ = some (.int .i64 0) := (blk_cell BK148.out 3).trans rfl
     have hfz43_0 := blk_frozen BK148.out 0
     have hfz43_1 := blk_frozen BK148.out 1
     have hfz43_2 := blk_frozen BK148.out 2
     have hfz43_3 := blk_frozen BK148.out 3
     go_wp2
     refine bodyPost_ret (results_list (rs := [.cell 4 26, .cell 5 24, .tmp 6]) rfl (by simp) (.cell gb147 26 #[.int .i64 0, .int .i64 0, .int .i64 0, .int .i64 0, .string (⟨#[]⟩ : ByteArray), .string (⟨#[]⟩ : ByteArray)] (0, 0) _ rfl (by (with_reducible repeat (first | refine blk_drewN ?_ _ | refine blk_drew ?_ | refine blk_alloc ?_ _)); refine blk_far ?_ NB147_148.out _; (with_reducible repeat (first | refine blk_drewN ?_ _ | refine blk_drew ?_ | refine blk_alloc ?_ _)); refine blk_far ?_ NB147_148.out _; (with_reducible repeat (first | refine blk_drewN ?_ _ | refine blk_drew ?_ | refine blk_alloc ?_ _)); refine blk_far ?_ NB147_148.out _; (with_reducible repeat (first | refine blk_drewN ?_ _ | refine blk_drew ?_ | refine blk_alloc ?_ _)); refine blk_far ?_ NB147_148.out _; (with_reducible repeat (first | refine blk_drewN ?_ _ | refine blk_drew ?_ | refine blk_alloc ?_ _)); refine blk_put (cs := #[.int .i64 0, .int .i64 0, .int .i64 0, .int .i64 0, .string (⟨#[]⟩ : ByteArray), .string (⟨#[]⟩ : ByteArray)]) ?_ 5 _ rfl; (with_reducible repeat (first | refine blk_drewN ?_ _ | refine blk_drew ?_ | refine blk_alloc ?_ _)); refine blk_put (cs := #[.int .i64 0, .int .i64 0, .int .i64 0, .int .i64 0, .string (⟨#[]⟩ : ByteArray), .string (⟨#[]⟩ : ByteArray)]) ?_ 4 _ rfl; (with_reducible repeat (first | refine blk_drewN ?_ _ | refine blk_drew ?_ | refine blk_alloc ?_ _)); refine blk_put (cs := #[.int .i64 0, .int .i64 0, .int .i64 0, .int .i64 0, .string (⟨#[]⟩ : ByteArray), .string (⟨#[]⟩ : ByteArray)]) ?_ 3 _ rfl; (with_reducible repeat (first | refine blk_drewN ?_ _ | refine blk_drew ?_ | refine blk_alloc ?_ _)); refine blk_put (cs := #[.int .i64 0, .int .i64 0, .int .i64 0, .int .i64 0, .string (⟨#[]⟩ : ByteArray), .string (⟨#[]⟩ : ByteArray)]) ?_ 2 _ rfl; (with_reducible repeat (first | refine blk_drewN ?_ _ | refine blk_drew ?_ | refine blk_alloc ?_ _)); refine blk_put (cs := #[.int .i64 0, .int .i64 0, .int .i64 0, .int .i64 0, .string (⟨#[]⟩ : ByteArray), .string (⟨#[]⟩ : ByteArray)]) ?_ 1 _ rfl; (with_reducible repeat (first | refine blk_drewN ?_ _ | refine blk_drew ?_ | refine blk_alloc ?_ _)); refine blk_put (cs := #[.int .i64 0, .int .i64 0, .int .i64 0, .int .i64 0, .string (⟨#[]⟩ : ByteArray), .string (⟨#[]⟩ : ByteArray)]) ?_ 0 _ rfl; (with_reducible repeat (first | refine blk_drewN ?_ _ | refine blk_drew ?_ | refine blk_alloc ?_ _)); exact BK147.out) Tryd.underlying26 rfl (by kernel_rfl) (.cell gb148 24 #[.int .i64 0, .int .i64 0, .int .i64 0, .int .i64 0] (0, 0) _ rfl (by (with_reducible repeat (first | refine blk_drewN ?_ _ | refine blk_drew ?_ | refine blk_alloc ?_ _)); refine blk_put (cs := #[.int .i64 0, .int .i64 0, .int .i64 0, .int .i64 0]) ?_ 3 _ rfl; (with_reducible repeat (first | refine blk_drewN ?_ _ | refine blk_drew ?_ | refine blk_alloc ?_ _)); refine blk_put (cs := #[.int .i64 0, .int .i64 0, .int .i64 0, .int .i64 0]) ?_ 2 _ rfl; (with_reducible repeat (first | refine blk_drewN ?_ _ | refine blk_drew ?_ | refine blk_alloc ?_ _)); refine blk_put (cs := #[.int .i64 0, .int .i64 0, .int .i64 0, .int .i64 0]) ?_ 1 _ rfl; (with_reducible repeat (first | refine blk_drewN ?_ _ | refine blk_drew ?_ | refine blk_alloc ?_ _)); refine blk_put (cs := #[.int .i64 0, .int .i64 0, .int .i64 0, .int .i64 0]) ?_ 0 _ rfl; (with_reducible repeat (first | refine blk_drewN ?_ _ | refine blk_drew ?_ | refine blk_alloc ?_ _)); refine blk_far ?_ NB148_147.out _; (with_reducible repeat (first | refine blk_drewN ?_ _ | refine blk_drew ?_ | refine blk_alloc ?_ _)); refine blk_far ?_ NB148_147.out _; (with_reducible repeat (first | refine blk_drewN ?_ _ | refine blk_drew ?_ | refine blk_alloc ?_ _)); refine blk_far ?_ NB148_147.out _; (with_reducible repeat (first | refine blk_drewN ?_ _ | refine blk_drew ?_ | refine blk_alloc ?_ _)); refine blk_far ?_ NB148_147.out _; (with_reducible repeat (first | refine blk_drewN ?_ _ | refine blk_drew ?_ | refine blk_alloc ?_ _)); refine blk_far ?_ NB148_147.out _; (with_reducible repeat (first | refine blk_drewN ?_ _ | refine blk_drew ?_ | refine blk_alloc ?_ _)); refine blk_far ?_ NB148_147.out _; (with_reducible repeat (first | refine blk_drewN ?_ _ | refine blk_drew ?_ | refine blk_alloc ?_ _)); exact BK148.out) Tryd.underlying24 rfl (by kernel_rfl) (.tmp .nil)))) rfl ?_
     exact ⟨by first | rfl | (simp [*] <;> rfl), by repeat (first | (with_reducible first | exact HB.out | apply below_alloc | apply pw_below_drewN | apply below_drew1 | refine below_set ?_ GE145.out | refine below_set ?_ GE146.out | refine below_set ?_ GE147.out | refine below_set ?_ GE148.out) | exact HB.out)⟩
    ·rw [if_neg c33] at H
     have c33b0 : decide (268435456 < (wrap64 (a0_0 + a1_0))) = false := decide_eq_false c33
     clear c33
     replace H := Option.bind_eq_some_iff.mp H
     obtain ⟨⟨t151, t152, t153, t154⟩, A440, H⟩ := H
     replace H : ((weld_sum.f a0_0 a0_1 a0_2 a0_3 a1_0 a1_1 a1_2 a1_3 1).bind fun bt156 => ((weld_sum.f bt156.1 bt156.2.1 bt156.2.2.1 bt156.2.2.2 t151 t152 t153 t154 (-1)).bind fun bt160 => (if a0_0 < 3 then (if a0_4.size + a1_4.size ≤ 9223372036854775807 then ((weld_head.f (a0_4 ++ a1_4)).bind fun t165 => (weld_both.j1 kj2 a0_0 a0_1 a0_2 a0_3 a0_4 a0_5 a1_0 a1_1 a1_2 a1_3 a1_4 a1_5 t151 t152 t153 t154 bt160.1 bt160.2.1 bt160.2.2.1 bt160.2.2.2 t165 a1_5)) else (none)) else (weld_both.j1 kj2 a0_0 a0_1 a0_2 a0_3 a0_4 a0_5 a1_0 a1_1 a1_2 a1_3 a1_4 a1_5 t151 t152 t153 t154 bt160.1 bt160.2.1 bt160.2.2.1 bt160.2.2.2 a0_4 a1_5)))) = some (r1, r2, r3, r4, r5, r6, r7, r8, r9, r10, r11) := H
     have A44 := Aside0.mk A440
     clear A440
     replace H := Option.bind_eq_some_iff.mp H
     obtain ⟨⟨t156, t157, t158, t159⟩, A450, H⟩ := H
     replace H : ((weld_sum.f t156 t157 t158 t159 t151 t152 t153 t154 (-1)).bind fun bt160 => (if a0_0 < 3 then (if a0_4.size + a1_4.size ≤ 9223372036854775807 then ((weld_head.f (a0_4 ++ a1_4)).bind fun t165 => (weld_both.j1 kj2 a0_0 a0_1 a0_2 a0_3 a0_4 a0_5 a1_0 a1_1 a1_2 a1_3 a1_4 a1_5 t151 t152 t153 t154 bt160.1 bt160.2.1 bt160.2.2.1 bt160.2.2.2 t165 a1_5)) else (none)) else (weld_both.j1 kj2 a0_0 a0_1 a0_2 a0_3 a0_4 a0_5 a1_0 a1_1 a1_2 a1_3 a1_4 a1_5 t151 t152 t153 t154 bt160.1 bt160.2.1 bt160.2.2.1 bt160.2.2.2 a0_4 a1_5))) = some (r1, r2, r3, r4, r5, r6, r7, r8, r9, r10, r11) := H
     have A45 := Aside0.mk A450
     clear A450
     replace H := Option.bind_eq_some_iff.mp H
     obtain ⟨⟨t160, t161, t162, t163⟩, A460, H⟩ := H
     replace H : (if a0_0 < 3 then (if a0_4.size + a1_4.size ≤ 9223372036854775807 then ((weld_head.f (a0_4 ++ a1_4)).bind fun t165 => (weld_both.j1 kj2 a0_0 a0_1 a0_2 a0_3 a0_4 a0_5 a1_0 a1_1 a1_2 a1_3 a1_4 a1_5 t151 t152 t153 t154 t160 t161 t162 t163 t165 a1_5)) else (none)) else (weld_both.j1 kj2 a0_0 a0_1 a0_2 a0_3 a0_4 a0_5 a1_0 a1_1 a1_2 a1_3 a1_4 a1_5 t151 t152 t153 t154 t160 t161 t162 t163 a0_4 a1_5)) = some (r1, r2, r3, r4, r5, r6, r7, r8, r9, r10, r11) := H
     have A46 := Aside0.mk A460
     clear A460
     have HC47 := Aside0.mk H
     clear H
     have hnb48 := NB145_146.out
     have hnc48 := NB146_145.out
     have hnb49 := NB145_147.out
     have hnc49 := NB147_145.out
     have hnb50 := NB145_148.out
     have hnc50 := NB148_145.out
     have hcz51_0 : wc.cell? ⟨gb145, 0, none⟩ = some (.int .i64 a0_0) := (blk_cell BK145.out 0).trans rfl
     have hcz51_1 : wc.cell? ⟨gb145, 1, none⟩ = some (.int .i64 a0_1) := (blk_cell BK145.out 1).trans rfl
     have hcz51_2 : wc.cell? ⟨gb145, 2, none⟩ = some (.int .i64 a0_2) := (blk_cell BK145.out 2).trans rfl
     have hcz51_3 : wc.cell? ⟨gb145, 3, none⟩ = some (.int .i64 a0_3) := (blk_cell BK145.out 3).trans rfl
     have hcz51_4 : wc.cell? ⟨gb145, 4, none⟩ = some (.string a0_4) := (blk_cell BK145.out 4).trans rfl
     have hcz51_5 : wc.cell? ⟨gb145, 5, none⟩ = some (.string a0_5) := (blk_cell BK145.out 5).trans rfl
     have hfz51_0 := blk_frozen BK145.out 0
     have hfz51_1 := blk_frozen BK145.out 1
     have hfz51_2 := blk_frozen BK145.out 2
     have hfz51_3 := blk_frozen BK145.out 3
     have hfz51_4 := blk_frozen BK145.out 4
     have hfz51_5 := blk_frozen BK145.out 5
     have hnb52 := NB146_147.out
     have hnc52 := NB147_146.out
     have hnb53 := NB146_148.out
     have hnc53 := NB148_146.out
     have hcz54_0 : wc.cell? ⟨gb146, 0, none⟩ = some (.int .i64 a1_0) := (blk_cell BK146.out 0).trans rfl
     have hcz54_1 : wc.cell? ⟨gb146, 1, none⟩ = some (.int .i64 a1_1) := (blk_cell BK146.out 1).trans rfl
     have hcz54_2 : wc.cell? ⟨gb146, 2, none⟩ = some (.int .i64 a1_2) := (blk_cell BK146.out 2).trans rfl
     have hcz54_3 : wc.cell? ⟨gb146, 3, none⟩ = some (.int .i64 a1_3) := (blk_cell BK146.out 3).trans rfl
     have hcz54_4 : wc.cell? ⟨gb146, 4, none⟩ = some (.string a1_4) := (blk_cell BK146.out 4).trans rfl
     have hcz54_5 : wc.cell? ⟨gb146, 5, none⟩ = some (.string a1_5) := (blk_cell BK146.out 5).trans rfl
     have hfz54_0 := blk_frozen BK146.out 0
     have hfz54_1 := blk_frozen BK146.out 1
     have hfz54_2 := blk_frozen BK146.out 2
     have hfz54_3 := blk_frozen BK146.out 3
     have hfz54_4 := blk_frozen BK146.out 4
     have hfz54_5 := blk_frozen BK146.out 5
     try go_wp2_with (first | ((with_reducible refine gate_callee (f := 38) rfl ?_); refine goesL_ (some 33) rfl rfl Tryd.func38 (by kernel_rfl) rfl #[.agg #[.int .i64 a0_0, .int .i64 a0_1, .int .i64 a0_2, .int .i64 a0_3, .string a0_4, .string a0_5], .agg #[.int .i64 a1_0, .int .i64 a1_1, .int .i64 a1_2, .int .i64 a1_3, .string a1_4, .string a1_5]] rfl (by (try simp only [List.map_toArray, List.map_cons, List.map_nil]); first | done | rfl | (simp only [List.length_drop, List.length_take]; rfl)) ?_; (with_reducible refine (weld_seam.calls kj2 a0_0 a0_1 a0_2 a0_3 a0_4 a0_5 a1_0 a1_1 a1_2 a1_3 a1_4 a1_5 t151 t152 t153 t154 _ ?side1 A44.out).mono ?_); (case side1 => first | (with_reducible exact HG.out) | exact Glob.Globs_below HG.out (by repeat (first | (with_reducible first | exact HB.out | apply below_alloc | apply pw_below_drewN | apply below_drew1 | refine below_set ?_ GE145.out | refine below_set ?_ GE146.out | refine below_set ?_ GE147.out | refine below_set ?_ GE148.out) | exact HB.out))); rintro e w55 ⟨rfl, hb⟩; refine ⟨_, rfl, ?_⟩; have n0_ := Aside0.mk (blk_below (g := gb145) (o := .cells #[.int .i64 a0_0, .int .i64 a0_1, .int .i64 a0_2, .int .i64 a0_3, .string a0_4, .string a0_5] 26 (0, 0)) (by (with_reducible repeat (first | refine blk_drewN ?_ _ | refine blk_drew ?_ | refine blk_alloc ?_ _)); exact BK145.out) hb); have n1_ := Aside0.mk (blk_below (g := gb146) (o := .cells #[.int .i64 a1_0, .int .i64 a1_1, .int .i64 a1_2, .int .i64 a1_3, .string a1_4, .string a1_5] 26 (0, 0)) (by (with_reducible repeat (first | refine blk_drewN ?_ _ | refine blk_drew ?_ | refine blk_alloc ?_ _)); exact BK146.out) hb); have n2_ := Aside0.mk (blk_below (g := gb147) (o := .cells #[.int .i64 0, .int .i64 0, .int .i64 0, .int .i64 0, .string (⟨#[]⟩ : ByteArray), .string (⟨#[]⟩ : ByteArray)] 26 (0, 0)) (by (with_reducible repeat (first | refine blk_drewN ?_ _ | refine blk_drew ?_ | refine blk_alloc ?_ _)); exact BK147.out) hb); have n3_ := Aside0.mk (blk_below (g := gb148) (o := .cells #[.int .i64 0, .int .i64 0, .int .i64 0, .int .i64 0] 24 (0, 0)) (by (with_reducible repeat (first | refine blk_drewN ?_ _ | refine blk_drew ?_ | refine blk_alloc ?_ _)); exact BK148.out) hb); have n4_ := Aside0.mk (below_step (by repeat (first | (with_reducible first | exact HB.out | apply below_alloc | apply pw_below_drewN | apply below_drew1 | refine below_set ?_ GE145.out | refine below_set ?_ GE146.out | refine below_set ?_ GE147.out | refine below_set ?_ GE148.out) | exact HB.out)) hb); clear BK145; clear BK146; clear BK147; clear BK148; clear HB; have BK145 := n0_; have BK146 := n1_; have BK147 := n2_; have BK148 := n3_; have HB := n4_; clear n0_ n1_ n2_ n3_ n4_; (try clear hb); (try clear hb2); (try clear hk); (try clear hi)) | ((with_reducible refine gate_dst (N := 7) rfl ?_); refine box_event ?hg (N := 7) ?hd (cs := #[.int .i64 0, .int .i64 0, .int .i64 0, .int .i64 0]) (t := 24) ?hr ?_; (case hd => rfl); (case hg => rfl); (case hr => first | (go_simp; done) | (go_simp; rfl)); intro gb155 hg w56 hbox hb; have n0_ := Aside0.mk (blk_below (g := gb145) (o := .cells #[.int .i64 a0_0, .int .i64 a0_1, .int .i64 a0_2, .int .i64 a0_3, .string a0_4, .string a0_5] 26 (0, 0)) (by (with_reducible repeat (first | refine blk_drewN ?_ _ | refine blk_drew ?_ | refine blk_alloc ?_ _)); exact BK145.out) hb); have n1_ := Aside0.mk (blk_below (g := gb146) (o := .cells #[.int .i64 a1_0, .int .i64 a1_1, .int .i64 a1_2, .int .i64 a1_3, .string a1_4, .string a1_5] 26 (0, 0)) (by (with_reducible repeat (first | refine blk_drewN ?_ _ | refine blk_drew ?_ | refine blk_alloc ?_ _)); exact BK146.out) hb); have n2_ := Aside0.mk (blk_below (g := gb147) (o := .cells #[.int .i64 0, .int .i64 0, .int .i64 0, .int .i64 0, .string (⟨#[]⟩ : ByteArray), .string (⟨#[]⟩ : ByteArray)] 26 (0, 0)) (by (with_reducible repeat (first | refine blk_drewN ?_ _ | refine blk_drew ?_ | refine blk_alloc ?_ _)); exact BK147.out) hb); have n3_ := Aside0.mk (blk_below (g := gb148) (o := .cells #[.int .i64 0, .int .i64 0, .int .i64 0, .int .i64 0] 24 (0, 0)) (by (with_reducible repeat (first | refine blk_drewN ?_ _ | refine blk_drew ?_ | refine blk_alloc ?_ _)); exact BK148.out) hb); have n4_ := Aside0.mk (below_step (by repeat (first | (with_reducible first | exact HB.out | apply below_alloc | apply pw_below_drewN | apply below_drew1 | refine below_set ?_ GE145.out | refine below_set ?_ GE146.out | refine below_set ?_ GE147.out | refine below_set ?_ GE148.out) | exact HB.out)) hb); have n5_ := Aside0.mk (hbox); have n6_ := Aside0.mk ((by rw [hg]; exact (below_size (by repeat (first | (with_reducible first | exact HB.out | apply below_alloc | apply pw_below_drewN | apply below_drew1 | refine below_set ?_ GE145.out | refine below_set ?_ GE146.out | refine below_set ?_ GE147.out | refine below_set ?_ GE148.out) | exact HB.out))) : w.heap.size ≤ gb155)); have n7_ := Aside0.mk ((by rw [hg]; exact (below_size (by repeat (first | (with_reducible first | exact HB.out | apply below_alloc | apply pw_below_drewN | apply below_drew1 | refine below_set ?_ GE145.out | refine below_set ?_ GE146.out | refine below_set ?_ GE147.out | refine below_set ?_ GE148.out) | exact HB.out))) : w.heap.size ≤ gb155)); have n8_ := Aside0.mk ((by rw [hg]; exact Nat.ne_of_lt (blk_lt (g := gb145) (o := .cells #[.int .i64 a0_0, .int .i64 a0_1, .int .i64 a0_2, .int .i64 a0_3, .string a0_4, .string a0_5] 26 (0, 0)) (by (with_reducible repeat (first | refine blk_drewN ?_ _ | refine blk_drew ?_ | refine blk_alloc ?_ _)); exact BK145.out)) : gb145 ≠ gb155)); have n9_ := Aside0.mk ((by rw [hg]; exact Nat.ne_of_gt (blk_lt (g := gb145) (o := .cells #[.int .i64 a0_0, .int .i64 a0_1, .int .i64 a0_2, .int .i64 a0_3, .string a0_4, .string a0_5] 26 (0, 0)) (by (with_reducible repeat (first | refine blk_drewN ?_ _ | refine blk_drew ?_ | refine blk_alloc ?_ _)); exact BK145.out)) : gb155 ≠ gb145)); have n10_ := Aside0.mk ((by rw [hg]; exact Nat.ne_of_lt (blk_lt (g := gb146) (o := .cells #[.int .i64 a1_0, .int .i64 a1_1, .int .i64 a1_2, .int .i64 a1_3, .string a1_4, .string a1_5] 26 (0, 0)) (by (with_reducible repeat (first | refine blk_drewN ?_ _ | refine blk_drew ?_ | refine blk_alloc ?_ _)); exact BK146.out)) : gb146 ≠ gb155)); have n11_ := Aside0.mk ((by rw [hg]; exact Nat.ne_of_gt (blk_lt (g := gb146) (o := .cells #[.int .i64 a1_0, .int .i64 a1_1, .int .i64 a1_2, .int .i64 a1_3, .string a1_4, .string a1_5] 26 (0, 0)) (by (with_reducible repeat (first | refine blk_drewN ?_ _ | refine blk_drew ?_ | refine blk_alloc ?_ _)); exact BK146.out)) : gb155 ≠ gb146)); have n12_ := Aside0.mk ((by rw [hg]; exact Nat.ne_of_lt (blk_lt (g := gb147) (o := .cells #[.int .i64 0, .int .i64 0, .int .i64 0, .int .i64 0, .string (⟨#[]⟩ : ByteArray), .string (⟨#[]⟩ : ByteArray)] 26 (0, 0)) (by (with_reducible repeat (first | refine blk_drewN ?_ _ | refine blk_drew ?_ | refine blk_alloc ?_ _)); exact BK147.out)) : gb147 ≠ gb155)); have n13_ := Aside0.mk ((by rw [hg]; exact Nat.ne_of_gt (blk_lt (g := gb147) (o := .cells #[.int .i64 0, .int .i64 0, .int .i64 0, .int .i64 0, .string (⟨#[]⟩ : ByteArray), .string (⟨#[]⟩ : ByteArray)] 26 (0, 0)) (by (with_reducible repeat (first | refine blk_drewN ?_ _ | refine blk_drew ?_ | refine blk_alloc ?_ _)); exact BK147.out)) : gb155 ≠ gb147)); have n14_ := Aside0.mk ((by rw [hg]; exact Nat.ne_of_lt (blk_lt (g := gb148) (o := .cells #[.int .i64 0, .int .i64 0, .int .i64 0, .int .i64 0] 24 (0, 0)) (by (with_reducible repeat (first | refine blk_drewN ?_ _ | refine blk_drew ?_ | refine blk_alloc ?_ _)); exact BK148.out)) : gb148 ≠ gb155)); have n15_ := Aside0.mk ((by rw [hg]; exact Nat.ne_of_gt (blk_lt (g := gb148) (o := .cells #[.int .i64 0, .int .i64 0, .int .i64 0, .int .i64 0] 24 (0, 0)) (by (with_reducible repeat (first | refine blk_drewN ?_ _ | refine blk_drew ?_ | refine blk_alloc ?_ _)); exact BK148.out)) : gb155 ≠ gb148)); clear BK145; clear BK146; clear BK147; clear BK148; clear HB; have BK145 := n0_; have BK146 := n1_; have BK147 := n2_; have BK148 := n3_; have HB := n4_; have BK155 := n5_; have GW155 := n6_; have GE155 := n7_; have NB145_155 := n8_; have NB155_145 := n9_; have NB146_155 := n10_; have NB155_146 := n11_; have NB147_155 := n12_; have NB155_147 := n13_; have NB148_155 := n14_; have NB155_148 := n15_; clear n0_ n1_ n2_ n3_ n4_ n5_ n6_ n7_ n8_ n9_ n10_ n11_ n12_ n13_ n14_ n15_; clear hb hbox hg; have hnb57 := NB155_145.out; have hnc57 := NB145_155.out; have hnb58 := NB155_146.out; have hnc58 := NB146_155.out; have hnb59 := NB155_147.out; have hnc59 := NB147_155.out; have hnb60 := NB155_148.out; have hnc60 := NB148_155.out; have hcz61_0 : w56.cell? ⟨gb155, 0, none⟩ = some (.int .i64 0) := (blk_cell BK155.out 0).trans rfl; have hcz61_1 : w56.cell? ⟨gb155, 1, none⟩ = some (.int .i64 0) := (blk_cell BK155.out 1).trans rfl; have hcz61_2 : w56.cell? ⟨gb155, 2, none⟩ = some (.int .i64 0) := (blk_cell BK155.out 2).trans rfl; have hcz61_3 : w56.cell? ⟨gb155, 3, none⟩ = some (.int .i64 0) := (blk_cell BK155.out 3).trans rfl; have hfz61_0 := blk_frozen BK155.out 0; have hfz61_1 := blk_frozen BK155.out 1; have hfz61_2 := blk_frozen BK155.out 2; have hfz61_3 := blk_frozen BK155.out 3))
     have n0_ : Aside0 (((((w56.setCell ⟨gb155, 0, none⟩ (.int .i64 t151)).setCell ⟨gb155, 1, none⟩ (.int .i64 t152)).setCell ⟨gb155, 2, none⟩ (.int .i64 t153)).setCell ⟨gb155, 3, none⟩ (.int .i64 t154)).heap[gb145]? = some (.cells #[.int .i64 a0_0, .int .i64 a0_1, .int .i64 a0_2, .int .i64 a0_3, .string a0_4, .string a0_5] 26 (0, 0))) := ⟨by (with_reducible repeat (first | refine blk_drewN ?_ _ | refine blk_drew ?_ | refine blk_alloc ?_ _)); refine blk_far ?_ NB145_155.out _; (with_reducible repeat (first | refine blk_drewN ?_ _ | refine blk_drew ?_ | refine blk_alloc ?_ _)); refine blk_far ?_ NB145_155.out _; (with_reducible repeat (first | refine blk_drewN ?_ _ | refine blk_drew ?_ | refine blk_alloc ?_ _)); refine blk_far ?_ NB145_155.out _; (with_reducible repeat (first | refine blk_drewN ?_ _ | refine blk_drew ?_ | refine blk_alloc ?_ _)); refine blk_far ?_ NB145_155.out _; (with_reducible repeat (first | refine blk_drewN ?_ _ | refine blk_drew ?_ | refine blk_alloc ?_ _)); exact BK145.out⟩
     have n1_ : Aside0 (((((w56.setCell ⟨gb155, 0, none⟩ (.int .i64 t151)).setCell ⟨gb155, 1, none⟩ (.int .i64 t152)).setCell ⟨gb155, 2, none⟩ (.int .i64 t153)).setCell ⟨gb155, 3, none⟩ (.int .i64 t154)).heap[gb146]? = some (.cells #[.int .i64 a1_0, .int .i64 a1_1, .int .i64 a1_2, .int .i64 a1_3, .string a1_4, .string a1_5] 26 (0, 0))) := ⟨by (with_reducible repeat (first | refine blk_drewN ?_ _ | refine blk_drew ?_ | refine blk_alloc ?_ _)); refine blk_far ?_ NB146_155.out _; (with_reducible repeat (first | refine blk_drewN ?_ _ | refine blk_drew ?_ | refine blk_alloc ?_ _)); refine blk_far ?_ NB146_155.out _; (with_reducible repeat (first | refine blk_drewN ?_ _ | refine blk_drew ?_ | refine blk_alloc ?_ _)); refine blk_far ?_ NB146_155.out _; (with_reducible repeat (first | refine blk_drewN ?_ _ | refine blk_drew ?_ | refine blk_alloc ?_ _)); refine blk_far ?_ NB146_155.out _; (with_reducible repeat (first | refine blk_drewN ?_ _ | refine blk_drew ?_ | refine blk_alloc ?_ _)); exact BK146.out⟩
     have n2_ : Aside0 (((((w56.setCell ⟨gb155, 0, none⟩ (.int .i64 t151)).setCell ⟨gb155, 1, none⟩ (.int .i64 t152)).setCell ⟨gb155, 2, none⟩ (.int .i64 t153)).setCell ⟨gb155, 3, none⟩ (.int .i64 t154)).heap[gb147]? = some (.cells #[.int .i64 0, .int .i64 0, .int .i64 0, .int .i64 0, .string (⟨#[]⟩ : ByteArray), .string (⟨#[]⟩ : ByteArray)] 26 (0, 0))) := ⟨by (with_reducible repeat (first | refine blk_drewN ?_ _ | refine blk_drew ?_ | refine blk_alloc ?_ _)); refine blk_far ?_ NB147_155.out _; (with_reducible repeat (first | refine blk_drewN ?_ _ | refine blk_drew ?_ | refine blk_alloc ?_ _)); refine blk_far ?_ NB147_155.out _; (with_reducible repeat (first | refine blk_drewN ?_ _ | refine blk_drew ?_ | refine blk_alloc ?_ _)); refine blk_far ?_ NB147_155.out _; (with_reducible repeat (first | refine blk_drewN ?_ _ | refine blk_drew ?_ | refine blk_alloc ?_ _)); refine blk_far ?_ NB147_155.out _; (with_reducible repeat (first | refine blk_drewN ?_ _ | refine blk_drew ?_ | refine blk_alloc ?_ _)); exact BK147.out⟩
     have n3_ : Aside0 (((((w56.setCell ⟨gb155, 0, none⟩ (.int .i64 t151)).setCell ⟨gb155, 1, none⟩ (.int .i64 t152)).setCell ⟨gb155, 2, none⟩ (.int .i64 t153)).setCell ⟨gb155, 3, none⟩ (.int .i64 t154)).heap[gb148]? = some (.cells #[.int .i64 0, .int .i64 0, .int .i64 0, .int .i64 0] 24 (0, 0))) := ⟨by (with_reducible repeat (first | refine blk_drewN ?_ _ | refine blk_drew ?_ | refine blk_alloc ?_ _)); refine blk_far ?_ NB148_155.out _; (with_reducible repeat (first | refine blk_drewN ?_ _ | refine blk_drew ?_ | refine blk_alloc ?_ _)); refine blk_far ?_ NB148_155.out _; (with_reducible repeat (first | refine blk_drewN ?_ _ | refine blk_drew ?_ | refine blk_alloc ?_ _)); refine blk_far ?_ NB148_155.out _; (with_reducible repeat (first | refine blk_drewN ?_ _ | refine blk_drew ?_ | refine blk_alloc ?_ _)); refine blk_far ?_ NB148_155.out _; (with_reducible repeat (first | refine blk_drewN ?_ _ | refine blk_drew ?_ | refine blk_alloc ?_ _)); exact BK148.out⟩
     have n4_ : Aside0 (((((w56.setCell ⟨gb155, 0, none⟩ (.int .i64 t151)).setCell ⟨gb155, 1, none⟩ (.int .i64 t152)).setCell ⟨gb155, 2, none⟩ (.int .i64 t153)).setCell ⟨gb155, 3, none⟩ (.int .i64 t154)).heap[gb155]? = some (.cells #[.int .i64 t151, .int .i64 t152, .int .i64 t153, .int .i64 t154] 24 (0, 0))) := ⟨by (with_reducible repeat (first | refine blk_drewN ?_ _ | refine blk_drew ?_ | refine blk_alloc ?_ _)); refine blk_put (cs := #[.int .i64 t151, .int .i64 t152, .int .i64 t153, .int .i64 0]) ?_ 3 _ rfl; (with_reducible repeat (first | refine blk_drewN ?_ _ | refine blk_drew ?_ | refine blk_alloc ?_ _)); refine blk_put (cs := #[.int .i64 t151, .int .i64 t152, .int .i64 0, .int .i64 0]) ?_ 2 _ rfl; (with_reducible repeat (first | refine blk_drewN ?_ _ | refine blk_drew ?_ | refine blk_alloc ?_ _)); refine blk_put (cs := #[.int .i64 t151, .int .i64 0, .int .i64 0, .int .i64 0]) ?_ 1 _ rfl; (with_reducible repeat (first | refine blk_drewN ?_ _ | refine blk_drew ?_ | refine blk_alloc ?_ _)); refine blk_put (cs := #[.int .i64 0, .int .i64 0, .int .i64 0, .int .i64 0]) ?_ 0 _ rfl; (with_reducible repeat (first | refine blk_drewN ?_ _ | refine blk_drew ?_ | refine blk_alloc ?_ _)); exact BK155.out⟩
     have n5_ : Aside0 (Below w.heap.size w ((((w56.setCell ⟨gb155, 0, none⟩ (.int .i64 t151)).setCell ⟨gb155, 1, none⟩ (.int .i64 t152)).setCell ⟨gb155, 2, none⟩ (.int .i64 t153)).setCell ⟨gb155, 3, none⟩ (.int .i64 t154))) := ⟨by repeat (first | (with_reducible first | exact HB.out | apply below_alloc | apply pw_below_drewN | apply below_drew1 | refine below_set ?_ GE145.out | refine below_set ?_ GE146.out | refine below_set ?_ GE147.out | refine below_set ?_ GE148.out | refine below_set ?_ GE155.out) | exact HB.out)⟩
     (try clear BK145)
     (try clear BK146)
     (try clear BK147)
     (try clear BK148)
     (try clear BK155)
     (try clear HB)
     generalize ((((w56.setCell ⟨gb155, 0, none⟩ (.int .i64 t151)).setCell ⟨gb155, 1, none⟩ (.int .i64 t152)).setCell ⟨gb155, 2, none⟩ (.int .i64 t153)).setCell ⟨gb155, 3, none⟩ (.int .i64 t154)) = w62 at n0_ n1_ n2_ n3_ n4_ n5_ ⊢
     have BK145 := n0_
     have BK146 := n1_
     have BK147 := n2_
     have BK148 := n3_
     have BK155 := n4_
     have HB := n5_
     clear n0_ n1_ n2_ n3_ n4_ n5_
     have n0_ := Aside0.mk (blk_drew BK145.out)
     have n1_ := Aside0.mk (blk_drew BK146.out)
     have n2_ := Aside0.mk (blk_drew BK147.out)
     have n3_ := Aside0.mk (blk_drew BK148.out)
     have n4_ := Aside0.mk (blk_drew BK155.out)
     have n5_ := Aside0.mk (below_drew1 HB.out)
     clear BK145
     clear BK146
     clear BK147
     clear BK148
     clear BK155
     clear HB
     have BK145 := n0_
     have BK146 := n1_
     have BK147 := n2_
     have BK148 := n3_
     have BK155 := n4_
     have HB := n5_
     clear n0_ n1_ n2_ n3_ n4_ n5_
     refine start_ (n := 14) (S := fun w' => w'.cell? ⟨gb145, 0, none⟩ = some (.int .i64 a0_0) ∧ w'.cell? ⟨gb145, 1, none⟩ = some (.int .i64 a0_1) ∧ w'.cell? ⟨gb145, 2, none⟩ = some (.int .i64 a0_2) ∧ w'.cell? ⟨gb145, 3, none⟩ = some (.int .i64 a0_3) ∧ w'.cell? ⟨gb145, 4, none⟩ = some (.string a0_4) ∧ w'.cell? ⟨gb145, 5, none⟩ = some (.string a0_5) ∧ w'.cell? ⟨gb146, 0, none⟩ = some (.int .i64 a1_0) ∧ w'.cell? ⟨gb146, 1, none⟩ = some (.int .i64 a1_1) ∧ w'.cell? ⟨gb146, 2, none⟩ = some (.int .i64 a1_2) ∧ w'.cell? ⟨gb146, 3, none⟩ = some (.int .i64 a1_3) ∧ w'.cell? ⟨gb146, 4, none⟩ = some (.string a1_4) ∧ w'.cell? ⟨gb146, 5, none⟩ = some (.string a1_5) ∧ w'.cell? ⟨gb155, 0, none⟩ = some (.int .i64 t151) ∧ w'.cell? ⟨gb155, 1, none⟩ = some (.int .i64 t152) ∧ w'.cell? ⟨gb155, 2, none⟩ = some (.int .i64 t153) ∧ w'.cell? ⟨gb155, 3, none⟩ = some (.int .i64 t154)) (ds := []) #[false, false, false, false, false, false, false, false, false, false, false, false, false, false] (by kernel_rfl) rfl rfl ⟨(blk_cell BK145.out 0).trans rfl, (blk_cell BK145.out 1).trans rfl, (blk_cell BK145.out 2).trans rfl, (blk_cell BK145.out 3).trans rfl, (blk_cell BK145.out 4).trans rfl, (blk_cell BK145.out 5).trans rfl, (blk_cell BK146.out 0).trans rfl, (blk_cell BK146.out 1).trans rfl, (blk_cell BK146.out 2).trans rfl, (blk_cell BK146.out 3).trans rfl, (blk_cell BK146.out 4).trans rfl, (blk_cell BK146.out 5).trans rfl, (blk_cell BK155.out 0).trans rfl, (blk_cell BK155.out 1).trans rfl, (blk_cell BK155.out 2).trans rfl, (blk_cell BK155.out 3).trans rfl⟩ (fun hHeld => ?_); refine with_tabW weld_both.tab6 weld_both.bits6 (fun HT_ HW_ => ?_)
     generalize w62.drew = w63 at BK145 BK146 BK147 BK148 BK155 HB hHeld ⊢
     refine pure_ (i := 0) (N := some 34) (v := ?_) (a' := ?_) #[true, false, false, false, false, false, false, false, false, false, false, false, false, false] rfl rfl (any_of HT_.out (by kernel_rfl)) (fun _ _ _ h => h) (Or.inl ⟨by rfl, ?_⟩) ?_ ?_
     rotate_left
     ·intro w'
      go_simp
      with_reducible rfl
     rotate_left
     ·simp only [Act.put, List.setIfInBounds_toArray, List.set_cons_zero, List.set_cons_succ, i64_w, i32_w]
      rfl
     refine pure_ (i := 2) (N := some 36) (v := ?_) (a' := ?_) #[true, false, true, false, false, false, false, false, false, false, false, false, false, false] rfl rfl (any_of HT_.out (by kernel_rfl)) (fun _ _ _ h => h) (Or.inl ⟨by rfl, ?_⟩) ?_ ?_
     rotate_left
     ·intro w'
      go_simp
      with_reducible rfl
     rotate_left
     ·simp only [Act.put, List.setIfInBounds_toArray, List.set_cons_zero, List.set_cons_succ, i64_w, i32_w]
      rfl
     refine pure_ (i := 7) (N := some 41) (v := ?_) (a' := ?_) #[true, false, true, false, false, false, false, true, false, false, false, false, false, false] rfl rfl (any_of HT_.out (by kernel_rfl)) (fun _ _ _ h => h) (Or.inl ⟨by rfl, ?_⟩) ?_ ?_
     rotate_left
     ·intro w'
      go_simp
      with_reducible rfl
     rotate_left
     ·simp only [Act.put, List.setIfInBounds_toArray, List.set_cons_zero, List.set_cons_succ, i64_w, i32_w]
      rfl
     refine pure_ (i := 9) (N := some 43) (v := ?_) (a' := ?_) #[true, false, true, false, false, false, false, true, false, true, false, false, false, false] rfl rfl (any_of HT_.out (by kernel_rfl)) (fun _ _ _ h => h) (Or.inl ⟨by rfl, ?_⟩) ?_ ?_
     rotate_left
     ·intro w'
      go_simp
      with_reducible rfl
     rotate_left
     ·simp only [Act.put, List.setIfInBounds_toArray, List.set_cons_zero, List.set_cons_succ, i64_w, i32_w]
      rfl
     refine take_ (i := 1) (N := some 35) (v := ?_) (a' := ?_) #[true, true, true, false, false, false, false, true, false, true, false, false, false, false] rfl rfl (take_ofW HT_.out HW_.out (by kernel_rfl)) (fun _ _ _ h => h) (Or.inl ⟨by rfl, ?_⟩) hHeld ?_ ?_
     rotate_left
     ·rintro w' ⟨s0, s1, s2, s3, s4, s5, s6, s7, s8, s9, s10, s11, s12, s13, s14, s15⟩
      go_simp
      with_reducible rfl
     rotate_left
     ·simp only [Act.put, List.setIfInBounds_toArray, List.set_cons_zero, List.set_cons_succ, i64_w, i32_w]
      rfl
     refine take_ (i := 3) (N := some 37) (v := ?_) (a' := ?_) #[true, true, true, true, false, false, false, true, false, true, false, false, false, false] rfl rfl (take_ofW HT_.out HW_.out (by kernel_rfl)) (fun _ _ _ h => h) (Or.inl ⟨by rfl, ?_⟩) hHeld ?_ ?_
     rotate_left
     ·rintro w' ⟨s0, s1, s2, s3, s4, s5, s6, s7, s8, s9, s10, s11, s12, s13, s14, s15⟩
      go_simp
      with_reducible rfl
     rotate_left
     ·simp only [Act.put, List.setIfInBounds_toArray, List.set_cons_zero, List.set_cons_succ, i64_w, i32_w]
      rfl
     refine take_ (i := 5) (N := some 39) (v := ?_) (a' := ?_) #[true, true, true, true, false, true, false, true, false, true, false, false, false, false] rfl rfl (take_ofW HT_.out HW_.out (by kernel_rfl)) (fun _ _ _ h => h) (Or.inl ⟨by rfl, ?_⟩) hHeld ?_ ?_
     rotate_left
     ·rintro w' ⟨s0, s1, s2, s3, s4, s5, s6, s7, s8, s9, s10, s11, s12, s13, s14, s15⟩
      go_simp
      with_reducible rfl
     rotate_left
     ·simp only [Act.put, List.setIfInBounds_toArray, List.set_cons_zero, List.set_cons_succ, i64_w, i32_w]
      rfl
     refine take_ (i := 8) (N := some 42) (v := ?_) (a' := ?_) #[true, true, true, true, false, true, false, true, true, true, false, false, false, false] rfl rfl (take_ofW HT_.out HW_.out (by kernel_rfl)) (fun _ _ _ h => h) (Or.inl ⟨by rfl, ?_⟩) hHeld ?_ ?_
     rotate_left
     ·rintro w' ⟨s0, s1, s2, s3, s4, s5, s6, s7, s8, s9, s10, s11, s12, s13, s14, s15⟩
      go_simp
      with_reducible rfl
     rotate_left
     ·simp only [Act.put, List.setIfInBounds_toArray, List.set_cons_zero, List.set_cons_succ, i64_w, i32_w]
      rfl
     refine take_ (i := 10) (N := some 44) (v := ?_) (a' := ?_) #[true, true, true, true, false, true, false, true, true, true, true, false, false, false] rfl rfl (take_ofW HT_.out HW_.out (by kernel_rfl)) (fun _ _ _ h => h) (Or.inl ⟨by rfl, ?_⟩) hHeld ?_ ?_
     rotate_left
     ·rintro w' ⟨s0, s1, s2, s3, s4, s5, s6, s7, s8, s9, s10, s11, s12, s13, s14, s15⟩
      go_simp
      with_reducible rfl
     rotate_left
     ·simp only [Act.put, List.setIfInBounds_toArray, List.set_cons_zero, List.set_cons_succ, i64_w, i32_w]
      rfl
     refine join_ (σ := Nat) 1 #[true, true, true, true, true, true, true, true, true, true, true, true, true, false] (fun s_ => [(38, .agg #[.int .i64 t156, .int .i64 t157, .int .i64 t158, .int .i64 t159]), (40, .agg #[.int .i64 t160, .int .i64 t161, .int .i64 t162, .int .i64 t163]), (8, .pointer (some ⟨s_, 0, none⟩)), (45, .agg #[.int .i64 t160, .int .i64 t161, .int .i64 t162, .int .i64 t163, .string a0_4, .string a1_5])]) (fun s_ w' => (w'.cell? ⟨gb145, 0, none⟩ = some (.int .i64 a0_0) ∧ w'.cell? ⟨gb145, 1, none⟩ = some (.int .i64 a0_1) ∧ w'.cell? ⟨gb145, 2, none⟩ = some (.int .i64 a0_2) ∧ w'.cell? ⟨gb145, 3, none⟩ = some (.int .i64 a0_3) ∧ w'.cell? ⟨gb145, 4, none⟩ = some (.string a0_4) ∧ w'.cell? ⟨gb145, 5, none⟩ = some (.string a0_5) ∧ w'.cell? ⟨gb146, 0, none⟩ = some (.int .i64 a1_0) ∧ w'.cell? ⟨gb146, 1, none⟩ = some (.int .i64 a1_1) ∧ w'.cell? ⟨gb146, 2, none⟩ = some (.int .i64 a1_2) ∧ w'.cell? ⟨gb146, 3, none⟩ = some (.int .i64 a1_3) ∧ w'.cell? ⟨gb146, 4, none⟩ = some (.string a1_4) ∧ w'.cell? ⟨gb146, 5, none⟩ = some (.string a1_5) ∧ w'.cell? ⟨gb155, 0, none⟩ = some (.int .i64 t151) ∧ w'.cell? ⟨gb155, 1, none⟩ = some (.int .i64 t152) ∧ w'.cell? ⟨gb155, 2, none⟩ = some (.int .i64 t153) ∧ w'.cell? ⟨gb155, 3, none⟩ = some (.int .i64 t154)) ∧ (w'.heap[gb145]? = some (.cells #[.int .i64 a0_0, .int .i64 a0_1, .int .i64 a0_2, .int .i64 a0_3, .string a0_4, .string a0_5] 26 (0, 0))) ∧ (w'.heap[gb146]? = some (.cells #[.int .i64 a1_0, .int .i64 a1_1, .int .i64 a1_2, .int .i64 a1_3, .string a1_4, .string a1_5] 26 (0, 0))) ∧ (w'.heap[gb147]? = some (.cells #[.int .i64 0, .int .i64 0, .int .i64 0, .int .i64 0, .string (⟨#[]⟩ : ByteArray), .string (⟨#[]⟩ : ByteArray)] 26 (0, 0))) ∧ (w'.heap[gb148]? = some (.cells #[.int .i64 0, .int .i64 0, .int .i64 0, .int .i64 0] 24 (0, 0))) ∧ (w'.heap[gb155]? = some (.cells #[.int .i64 t151, .int .i64 t152, .int .i64 t153, .int .i64 t154] 24 (0, 0))) ∧ (w'.heap[s_]? = some (.cells #[.int .i64 0, .int .i64 0, .int .i64 0, .int .i64 0, .string (⟨#[]⟩ : ByteArray), .string (⟨#[]⟩ : ByteArray)] 26 (0, 0))) ∧ (w.heap.size ≤ s_) ∧ (w.heap.size ≤ s_) ∧ (gb145 ≠ s_) ∧ (s_ ≠ gb145) ∧ (gb146 ≠ s_) ∧ (s_ ≠ gb146) ∧ (gb147 ≠ s_) ∧ (s_ ≠ gb147) ∧ (gb148 ≠ s_) ∧ (s_ ≠ gb148) ∧ (gb155 ≠ s_) ∧ (s_ ≠ gb155) ∧ (Below w.heap.size w w')) ?_ ?_
     rotate_left
     ·intro hCont
      refine two_ (i := 4) (j := 12) (Ni := some 38) (Nj := some 8) #[true, true, true, true, true, true, false, true, true, true, true, false, false, false] #[true, true, true, true, false, true, false, true, true, true, true, false, true, false] rfl rfl rfl rfl (two_of HT_.out (by kernel_rfl)) (by decide) (by decide) (fun K hK => ?_) (fun K hK => ?_)
      ·skip
       refine goes_ Tryd.func39 (by kernel_rfl) rfl #[.agg #[.int .i64 a0_0, .int .i64 a0_1, .int .i64 a0_2, .int .i64 a0_3], .agg #[.int .i64 a1_0, .int .i64 a1_1, .int .i64 a1_2, .int .i64 a1_3], .int .i64 1] (by rfl) rfl rfl (by (try simp only [List.map_toArray, List.map_cons, List.map_nil]); first | done | rfl | (simp only [List.length_drop, List.length_take]; rfl)) ?_
       with_reducible refine (weld_sum.calls a0_0 a0_1 a0_2 a0_3 a1_0 a1_1 a1_2 a1_3 1 t156 t157 t158 t159 _ A45.out).mono ?_
       rintro e w64 ⟨rfl, hb⟩
       refine ⟨_, rfl, ?_⟩
       have n0_ := Aside0.mk (blk_below (g := gb145) (o := .cells #[.int .i64 a0_0, .int .i64 a0_1, .int .i64 a0_2, .int .i64 a0_3, .string a0_4, .string a0_5] 26 (0, 0)) (by (with_reducible repeat (first | refine blk_drewN ?_ _ | refine blk_drew ?_ | refine blk_alloc ?_ _)); exact BK145.out) hb)
       have n1_ := Aside0.mk (blk_below (g := gb146) (o := .cells #[.int .i64 a1_0, .int .i64 a1_1, .int .i64 a1_2, .int .i64 a1_3, .string a1_4, .string a1_5] 26 (0, 0)) (by (with_reducible repeat (first | refine blk_drewN ?_ _ | refine blk_drew ?_ | refine blk_alloc ?_ _)); exact BK146.out) hb)
       have n2_ := Aside0.mk (blk_below (g := gb147) (o := .cells #[.int .i64 0, .int .i64 0, .int .i64 0, .int .i64 0, .string (⟨#[]⟩ : ByteArray), .string (⟨#[]⟩ : ByteArray)] 26 (0, 0)) (by (with_reducible repeat (first | refine blk_drewN ?_ _ | refine blk_drew ?_ | refine blk_alloc ?_ _)); exact BK147.out) hb)
       have n3_ := Aside0.mk (blk_below (g := gb148) (o := .cells #[.int .i64 0, .int .i64 0, .int .i64 0, .int .i64 0] 24 (0, 0)) (by (with_reducible repeat (first | refine blk_drewN ?_ _ | refine blk_drew ?_ | refine blk_alloc ?_ _)); exact BK148.out) hb)
       have n4_ := Aside0.mk (blk_below (g := gb155) (o := .cells #[.int .i64 t151, .int .i64 t152, .int .i64 t153, .int .i64 t154] 24 (0, 0)) (by (with_reducible repeat (first | refine blk_drewN ?_ _ | refine blk_drew ?_ | refine blk_alloc ?_ _)); exact BK155.out) hb)
       have n5_ := Aside0.mk (below_step (by repeat (first | (with_reducible first | exact HB.out | apply below_alloc | apply pw_below_drewN | apply below_drew1 | refine below_set ?_ GE145.out | refine below_set ?_ GE146.out | refine below_set ?_ GE147.out | refine below_set ?_ GE148.out | refine below_set ?_ GE155.out) | exact HB.out)) hb)
       clear BK145
       clear BK146
       clear BK147
       clear BK148
       clear BK155
       clear HB
       have BK145 := n0_
       have BK146 := n1_
       have BK147 := n2_
       have BK148 := n3_
       have BK155 := n4_
       have HB := n5_
       clear n0_ n1_ n2_ n3_ n4_ n5_
       (try clear hb)
       (try clear hb2)
       (try clear hk)
       (try clear hi)
       refine hK.out _ _ ⟨(blk_cell BK145.out 0).trans rfl, (blk_cell BK145.out 1).trans rfl, (blk_cell BK145.out 2).trans rfl, (blk_cell BK145.out 3).trans rfl, (blk_cell BK145.out 4).trans rfl, (blk_cell BK145.out 5).trans rfl, (blk_cell BK146.out 0).trans rfl, (blk_cell BK146.out 1).trans rfl, (blk_cell BK146.out 2).trans rfl, (blk_cell BK146.out 3).trans rfl, (blk_cell BK146.out 4).trans rfl, (blk_cell BK146.out 5).trans rfl, (blk_cell BK155.out 0).trans rfl, (blk_cell BK155.out 1).trans rfl, (blk_cell BK155.out 2).trans rfl, (blk_cell BK155.out 3).trans rfl⟩ (fun hHeld => ?_)
       clear hK K
       refine norm_ (a' := ?_) ?_ ?_
       rotate_left
       ·show Act.put _ (some 38) _ = _
        simp only [Act.put, List.setIfInBounds_toArray, List.set_cons_zero, List.set_cons_succ, i64_w, i32_w]
        rfl
       refine two_ (i := 6) (j := 12) (Ni := some 40) (Nj := some 8) #[true, true, true, true, true, true, true, true, true, true, true, false, false, false] #[true, true, true, true, true, true, false, true, true, true, true, false, true, false] rfl rfl rfl rfl (two_of HT_.out (by kernel_rfl)) (by decide) (by decide) (fun K hK => ?_) (fun K hK => ?_)
       ·skip
        refine goes_ Tryd.func39 (by kernel_rfl) rfl #[.agg #[.int .i64 t156, .int .i64 t157, .int .i64 t158, .int .i64 t159], .agg #[.int .i64 t151, .int .i64 t152, .int .i64 t153, .int .i64 t154], .int .i64 (-1)] (by rfl) rfl rfl (by (try simp only [List.map_toArray, List.map_cons, List.map_nil]); first | done | rfl | (simp only [List.length_drop, List.length_take]; rfl)) ?_
        with_reducible refine (weld_sum.calls t156 t157 t158 t159 t151 t152 t153 t154 (-1) t160 t161 t162 t163 _ A46.out).mono ?_
        rintro e w65 ⟨rfl, hb⟩
        refine ⟨_, rfl, ?_⟩
        have n0_ := Aside0.mk (blk_below (g := gb145) (o := .cells #[.int .i64 a0_0, .int .i64 a0_1, .int .i64 a0_2, .int .i64 a0_3, .string a0_4, .string a0_5] 26 (0, 0)) (by (with_reducible repeat (first | refine blk_drewN ?_ _ | refine blk_drew ?_ | refine blk_alloc ?_ _)); exact BK145.out) hb)
        have n1_ := Aside0.mk (blk_below (g := gb146) (o := .cells #[.int .i64 a1_0, .int .i64 a1_1, .int .i64 a1_2, .int .i64 a1_3, .string a1_4, .string a1_5] 26 (0, 0)) (by (with_reducible repeat (first | refine blk_drewN ?_ _ | refine blk_drew ?_ | refine blk_alloc ?_ _)); exact BK146.out) hb)
        have n2_ := Aside0.mk (blk_below (g := gb147) (o := .cells #[.int .i64 0, .int .i64 0, .int .i64 0, .int .i64 0, .string (⟨#[]⟩ : ByteArray), .string (⟨#[]⟩ : ByteArray)] 26 (0, 0)) (by (with_reducible repeat (first | refine blk_drewN ?_ _ | refine blk_drew ?_ | refine blk_alloc ?_ _)); exact BK147.out) hb)
        have n3_ := Aside0.mk (blk_below (g := gb148) (o := .cells #[.int .i64 0, .int .i64 0, .int .i64 0, .int .i64 0] 24 (0, 0)) (by (with_reducible repeat (first | refine blk_drewN ?_ _ | refine blk_drew ?_ | refine blk_alloc ?_ _)); exact BK148.out) hb)
        have n4_ := Aside0.mk (blk_below (g := gb155) (o := .cells #[.int .i64 t151, .int .i64 t152, .int .i64 t153, .int .i64 t154] 24 (0, 0)) (by (with_reducible repeat (first | refine blk_drewN ?_ _ | refine blk_drew ?_ | refine blk_alloc ?_ _)); exact BK155.out) hb)
        have n5_ := Aside0.mk (below_step (by repeat (first | (with_reducible first | exact HB.out | apply below_alloc | apply pw_below_drewN | apply below_drew1 | refine below_set ?_ GE145.out | refine below_set ?_ GE146.out | refine below_set ?_ GE147.out | refine below_set ?_ GE148.out | refine below_set ?_ GE155.out) | exact HB.out)) hb)
        clear BK145
        clear BK146
        clear BK147
        clear BK148
        clear BK155
        clear HB
        have BK145 := n0_
        have BK146 := n1_
        have BK147 := n2_
        have BK148 := n3_
        have BK155 := n4_
        have HB := n5_
        clear n0_ n1_ n2_ n3_ n4_ n5_
        (try clear hb)
        (try clear hb2)
        (try clear hk)
        (try clear hi)
        refine hK.out _ _ ⟨(blk_cell BK145.out 0).trans rfl, (blk_cell BK145.out 1).trans rfl, (blk_cell BK145.out 2).trans rfl, (blk_cell BK145.out 3).trans rfl, (blk_cell BK145.out 4).trans rfl, (blk_cell BK145.out 5).trans rfl, (blk_cell BK146.out 0).trans rfl, (blk_cell BK146.out 1).trans rfl, (blk_cell BK146.out 2).trans rfl, (blk_cell BK146.out 3).trans rfl, (blk_cell BK146.out 4).trans rfl, (blk_cell BK146.out 5).trans rfl, (blk_cell BK155.out 0).trans rfl, (blk_cell BK155.out 1).trans rfl, (blk_cell BK155.out 2).trans rfl, (blk_cell BK155.out 3).trans rfl⟩ (fun hHeld => ?_)
        clear hK K
        refine norm_ (a' := ?_) ?_ ?_
        rotate_left
        ·show Act.put _ (some 40) _ = _
         simp only [Act.put, List.setIfInBounds_toArray, List.set_cons_zero, List.set_cons_succ, i64_w, i32_w]
         rfl
        refine pure_ (i := 11) (N := some 45) (v := ?_) (a' := ?_) #[true, true, true, true, true, true, true, true, true, true, true, true, false, false] rfl rfl (any_of HT_.out (by kernel_rfl)) (fun _ _ _ h => h) (Or.inl ⟨by rfl, ?_⟩) ?_ ?_
        rotate_left
        ·intro w'
         go_simp
         with_reducible rfl
        rotate_left
        ·simp only [Act.put, List.setIfInBounds_toArray, List.set_cons_zero, List.set_cons_succ, i64_w, i32_w]
         rfl
        refine one_ (i := 12) (N := some 8) #[true, true, true, true, true, true, true, true, true, true, true, true, true, false] rfl rfl (one_of HT_.out (by kernel_rfl)) (by decide) (fun K hK => ?_)
        refine box_step ?hg (N := 8) ?hd (cs := #[.int .i64 0, .int .i64 0, .int .i64 0, .int .i64 0, .string (⟨#[]⟩ : ByteArray), .string (⟨#[]⟩ : ByteArray)]) (t := 26) ?hr ?_; (case hd => rfl); (case hg => rfl); (case hr => first | (go_simp; done) | (go_simp; rfl))
        intro gb164 hg w66 hbox hb
        have n0_ := Aside0.mk (blk_below (g := gb145) (o := .cells #[.int .i64 a0_0, .int .i64 a0_1, .int .i64 a0_2, .int .i64 a0_3, .string a0_4, .string a0_5] 26 (0, 0)) (by (with_reducible repeat (first | refine blk_drewN ?_ _ | refine blk_drew ?_ | refine blk_alloc ?_ _)); exact BK145.out) hb)
        have n1_ := Aside0.mk (blk_below (g := gb146) (o := .cells #[.int .i64 a1_0, .int .i64 a1_1, .int .i64 a1_2, .int .i64 a1_3, .string a1_4, .string a1_5] 26 (0, 0)) (by (with_reducible repeat (first | refine blk_drewN ?_ _ | refine blk_drew ?_ | refine blk_alloc ?_ _)); exact BK146.out) hb)
        have n2_ := Aside0.mk (blk_below (g := gb147) (o := .cells #[.int .i64 0, .int .i64 0, .int .i64 0, .int .i64 0, .string (⟨#[]⟩ : ByteArray), .string (⟨#[]⟩ : ByteArray)] 26 (0, 0)) (by (with_reducible repeat (first | refine blk_drewN ?_ _ | refine blk_drew ?_ | refine blk_alloc ?_ _)); exact BK147.out) hb)
        have n3_ := Aside0.mk (blk_below (g := gb148) (o := .cells #[.int .i64 0, .int .i64 0, .int .i64 0, .int .i64 0] 24 (0, 0)) (by (with_reducible repeat (first | refine blk_drewN ?_ _ | refine blk_drew ?_ | refine blk_alloc ?_ _)); exact BK148.out) hb)
        have n4_ := Aside0.mk (blk_below (g := gb155) (o := .cells #[.int .i64 t151, .int .i64 t152, .int .i64 t153, .int .i64 t154] 24 (0, 0)) (by (with_reducible repeat (first | refine blk_drewN ?_ _ | refine blk_drew ?_ | refine blk_alloc ?_ _)); exact BK155.out) hb)
        have n5_ := Aside0.mk (below_step (by repeat (first | (with_reducible first | exact HB.out | apply below_alloc | apply pw_below_drewN | apply below_drew1 | refine below_set ?_ GE145.out | refine below_set ?_ GE146.out | refine below_set ?_ GE147.out | refine below_set ?_ GE148.out | refine below_set ?_ GE155.out) | exact HB.out)) hb)
        have n6_ := Aside0.mk (hbox)
        have n7_ := Aside0.mk ((by rw [hg]; exact (below_size (by repeat (first | (with_reducible first | exact HB.out | apply below_alloc | apply pw_below_drewN | apply below_drew1 | refine below_set ?_ GE145.out | refine below_set ?_ GE146.out | refine below_set ?_ GE147.out | refine below_set ?_ GE148.out | refine below_set ?_ GE155.out) | exact HB.out))) : w.heap.size ≤ gb164))
        have n8_ := Aside0.mk ((by rw [hg]; exact (below_size (by repeat (first | (with_reducible first | exact HB.out | apply below_alloc | apply pw_below_drewN | apply below_drew1 | refine below_set ?_ GE145.out | refine below_set ?_ GE146.out | refine below_set ?_ GE147.out | refine below_set ?_ GE148.out | refine below_set ?_ GE155.out) | exact HB.out))) : w.heap.size ≤ gb164))
        have n9_ := Aside0.mk ((by rw [hg]; exact Nat.ne_of_lt (blk_lt (g := gb145) (o := .cells #[.int .i64 a0_0, .int .i64 a0_1, .int .i64 a0_2, .int .i64 a0_3, .string a0_4, .string a0_5] 26 (0, 0)) (by (with_reducible repeat (first | refine blk_drewN ?_ _ | refine blk_drew ?_ | refine blk_alloc ?_ _)); exact BK145.out)) : gb145 ≠ gb164))
        have n10_ := Aside0.mk ((by rw [hg]; exact Nat.ne_of_gt (blk_lt (g := gb145) (o := .cells #[.int .i64 a0_0, .int .i64 a0_1, .int .i64 a0_2, .int .i64 a0_3, .string a0_4, .string a0_5] 26 (0, 0)) (by (with_reducible repeat (first | refine blk_drewN ?_ _ | refine blk_drew ?_ | refine blk_alloc ?_ _)); exact BK145.out)) : gb164 ≠ gb145))
        have n11_ := Aside0.mk ((by rw [hg]; exact Nat.ne_of_lt (blk_lt (g := gb146) (o := .cells #[.int .i64 a1_0, .int .i64 a1_1, .int .i64 a1_2, .int .i64 a1_3, .string a1_4, .string a1_5] 26 (0, 0)) (by (with_reducible repeat (first | refine blk_drewN ?_ _ | refine blk_drew ?_ | refine blk_alloc ?_ _)); exact BK146.out)) : gb146 ≠ gb164))
        have n12_ := Aside0.mk ((by rw [hg]; exact Nat.ne_of_gt (blk_lt (g := gb146) (o := .cells #[.int .i64 a1_0, .int .i64 a1_1, .int .i64 a1_2, .int .i64 a1_3, .string a1_4, .string a1_5] 26 (0, 0)) (by (with_reducible repeat (first | refine blk_drewN ?_ _ | refine blk_drew ?_ | refine blk_alloc ?_ _)); exact BK146.out)) : gb164 ≠ gb146))
        have n13_ := Aside0.mk ((by rw [hg]; exact Nat.ne_of_lt (blk_lt (g := gb147) (o := .cells #[.int .i64 0, .int .i64 0, .int .i64 0, .int .i64 0, .string (⟨#[]⟩ : ByteArray), .string (⟨#[]⟩ : ByteArray)] 26 (0, 0)) (by (with_reducible repeat (first | refine blk_drewN ?_ _ | refine blk_drew ?_ | refine blk_alloc ?_ _)); exact BK147.out)) : gb147 ≠ gb164))
        have n14_ := Aside0.mk ((by rw [hg]; exact Nat.ne_of_gt (blk_lt (g := gb147) (o := .cells #[.int .i64 0, .int .i64 0, .int .i64 0, .int .i64 0, .string (⟨#[]⟩ : ByteArray), .string (⟨#[]⟩ : ByteArray)] 26 (0, 0)) (by (with_reducible repeat (first | refine blk_drewN ?_ _ | refine blk_drew ?_ | refine blk_alloc ?_ _)); exact BK147.out)) : gb164 ≠ gb147))
        have n15_ := Aside0.mk ((by rw [hg]; exact Nat.ne_of_lt (blk_lt (g := gb148) (o := .cells #[.int .i64 0, .int .i64 0, .int .i64 0, .int .i64 0] 24 (0, 0)) (by (with_reducible repeat (first | refine blk_drewN ?_ _ | refine blk_drew ?_ | refine blk_alloc ?_ _)); exact BK148.out)) : gb148 ≠ gb164))
        have n16_ := Aside0.mk ((by rw [hg]; exact Nat.ne_of_gt (blk_lt (g := gb148) (o := .cells #[.int .i64 0, .int .i64 0, .int .i64 0, .int .i64 0] 24 (0, 0)) (by (with_reducible repeat (first | refine blk_drewN ?_ _ | refine blk_drew ?_ | refine blk_alloc ?_ _)); exact BK148.out)) : gb164 ≠ gb148))
        have n17_ := Aside0.mk ((by rw [hg]; exact Nat.ne_of_lt (blk_lt (g := gb155) (o := .cells #[.int .i64 t151, .int .i64 t152, .int .i64 t153, .int .i64 t154] 24 (0, 0)) (by (with_reducible repeat (first | refine blk_drewN ?_ _ | refine blk_drew ?_ | refine blk_alloc ?_ _)); exact BK155.out)) : gb155 ≠ gb164))
        have n18_ := Aside0.mk ((by rw [hg]; exact Nat.ne_of_gt (blk_lt (g := gb155) (o := .cells #[.int .i64 t151, .int .i64 t152, .int .i64 t153, .int .i64 t154] 24 (0, 0)) (by (with_reducible repeat (first | refine blk_drewN ?_ _ | refine blk_drew ?_ | refine blk_alloc ?_ _)); exact BK155.out)) : gb164 ≠ gb155))
        clear BK145
        clear BK146
        clear BK147
        clear BK148
        clear BK155
        clear HB
        have BK145 := n0_
        have BK146 := n1_
        have BK147 := n2_
        have BK148 := n3_
        have BK155 := n4_
        have HB := n5_
        have BK164 := n6_
        have GW164 := n7_
        have GE164 := n8_
        have NB145_164 := n9_
        have NB164_145 := n10_
        have NB146_164 := n11_
        have NB164_146 := n12_
        have NB147_164 := n13_
        have NB164_147 := n14_
        have NB148_164 := n15_
        have NB164_148 := n16_
        have NB155_164 := n17_
        have NB164_155 := n18_
        clear n0_ n1_ n2_ n3_ n4_ n5_ n6_ n7_ n8_ n9_ n10_ n11_ n12_ n13_ n14_ n15_ n16_ n17_ n18_
        clear hb hbox hg
        refine hK.out _ _ ⟨(blk_cell BK145.out 0).trans rfl, (blk_cell BK145.out 1).trans rfl, (blk_cell BK145.out 2).trans rfl, (blk_cell BK145.out 3).trans rfl, (blk_cell BK145.out 4).trans rfl, (blk_cell BK145.out 5).trans rfl, (blk_cell BK146.out 0).trans rfl, (blk_cell BK146.out 1).trans rfl, (blk_cell BK146.out 2).trans rfl, (blk_cell BK146.out 3).trans rfl, (blk_cell BK146.out 4).trans rfl, (blk_cell BK146.out 5).trans rfl, (blk_cell BK155.out 0).trans rfl, (blk_cell BK155.out 1).trans rfl, (blk_cell BK155.out 2).trans rfl, (blk_cell BK155.out 3).trans rfl⟩ (fun hHeld => ?_)
        clear hK K
        refine norm_ (a' := ?_) ?_ ?_
        rotate_left
        ·show Act.put _ (some 8) _ = _
         simp only [Act.put, List.setIfInBounds_toArray, List.set_cons_zero, List.set_cons_succ, i64_w, i32_w]
         rfl
        exact norm_ (by simp only [putAll, Act.put, List.setIfInBounds_toArray, List.set_cons_zero, List.set_cons_succ]) (hCont (gb164) _ ⟨hHeld, (by (with_reducible repeat (first | refine blk_drewN ?_ _ | refine blk_drew ?_ | refine blk_alloc ?_ _)); exact BK145.out), (by (with_reducible repeat (first | refine blk_drewN ?_ _ | refine blk_drew ?_ | refine blk_alloc ?_ _)); exact BK146.out), (by (with_reducible repeat (first | refine blk_drewN ?_ _ | refine blk_drew ?_ | refine blk_alloc ?_ _)); exact BK147.out), (by (with_reducible repeat (first | refine blk_drewN ?_ _ | refine blk_drew ?_ | refine blk_alloc ?_ _)); exact BK148.out), (by (with_reducible repeat (first | refine blk_drewN ?_ _ | refine blk_drew ?_ | refine blk_alloc ?_ _)); exact BK155.out), (by (with_reducible repeat (first | refine blk_drewN ?_ _ | refine blk_drew ?_ | refine blk_alloc ?_ _)); exact BK164.out), GW164.out, GE164.out, NB145_164.out, NB164_145.out, NB146_164.out, NB164_146.out, NB147_164.out, NB164_147.out, NB148_164.out, NB164_148.out, NB155_164.out, NB164_155.out, (by repeat (first | (with_reducible first | exact HB.out | apply below_alloc | apply pw_below_drewN | apply below_drew1 | refine below_set ?_ GE145.out | refine below_set ?_ GE146.out | refine below_set ?_ GE147.out | refine below_set ?_ GE148.out | refine below_set ?_ GE155.out | refine below_set ?_ GE164.out) | exact HB.out))⟩)
       ·skip
        refine box_step ?hg (N := 8) ?hd (cs := #[.int .i64 0, .int .i64 0, .int .i64 0, .int .i64 0, .string (⟨#[]⟩ : ByteArray), .string (⟨#[]⟩ : ByteArray)]) (t := 26) ?hr ?_; (case hd => rfl); (case hg => rfl); (case hr => first | (go_simp; done) | (go_simp; rfl))
        intro gb164 hg w65 hbox hb
        have n0_ := Aside0.mk (blk_below (g := gb145) (o := .cells #[.int .i64 a0_0, .int .i64 a0_1, .int .i64 a0_2, .int .i64 a0_3, .string a0_4, .string a0_5] 26 (0, 0)) (by (with_reducible repeat (first | refine blk_drewN ?_ _ | refine blk_drew ?_ | refine blk_alloc ?_ _)); exact BK145.out) hb)
        have n1_ := Aside0.mk (blk_below (g := gb146) (o := .cells #[.int .i64 a1_0, .int .i64 a1_1, .int .i64 a1_2, .int .i64 a1_3, .string a1_4, .string a1_5] 26 (0, 0)) (by (with_reducible repeat (first | refine blk_drewN ?_ _ | refine blk_drew ?_ | refine blk_alloc ?_ _)); exact BK146.out) hb)
        have n2_ := Aside0.mk (blk_below (g := gb147) (o := .cells #[.int .i64 0, .int .i64 0, .int .i64 0, .int .i64 0, .string (⟨#[]⟩ : ByteArray), .string (⟨#[]⟩ : ByteArray)] 26 (0, 0)) (by (with_reducible repeat (first | refine blk_drewN ?_ _ | refine blk_drew ?_ | refine blk_alloc ?_ _)); exact BK147.out) hb)
        have n3_ := Aside0.mk (blk_below (g := gb148) (o := .cells #[.int .i64 0, .int .i64 0, .int .i64 0, .int .i64 0] 24 (0, 0)) (by (with_reducible repeat (first | refine blk_drewN ?_ _ | refine blk_drew ?_ | refine blk_alloc ?_ _)); exact BK148.out) hb)
        have n4_ := Aside0.mk (blk_below (g := gb155) (o := .cells #[.int .i64 t151, .int .i64 t152, .int .i64 t153, .int .i64 t154] 24 (0, 0)) (by (with_reducible repeat (first | refine blk_drewN ?_ _ | refine blk_drew ?_ | refine blk_alloc ?_ _)); exact BK155.out) hb)
        have n5_ := Aside0.mk (below_step (by repeat (first | (with_reducible first | exact HB.out | apply below_alloc | apply pw_below_drewN | apply below_drew1 | refine below_set ?_ GE145.out | refine below_set ?_ GE146.out | refine below_set ?_ GE147.out | refine below_set ?_ GE148.out | refine below_set ?_ GE155.out) | exact HB.out)) hb)
        have n6_ := Aside0.mk (hbox)
        have n7_ := Aside0.mk ((by rw [hg]; exact (below_size (by repeat (first | (with_reducible first | exact HB.out | apply below_alloc | apply pw_below_drewN | apply below_drew1 | refine below_set ?_ GE145.out | refine below_set ?_ GE146.out | refine below_set ?_ GE147.out | refine below_set ?_ GE148.out | refine below_set ?_ GE155.out) | exact HB.out))) : w.heap.size ≤ gb164))
        have n8_ := Aside0.mk ((by rw [hg]; exact (below_size (by repeat (first | (with_reducible first | exact HB.out | apply below_alloc | apply pw_below_drewN | apply below_drew1 | refine below_set ?_ GE145.out | refine below_set ?_ GE146.out | refine below_set ?_ GE147.out | refine below_set ?_ GE148.out | refine below_set ?_ GE155.out) | exact HB.out))) : w.heap.size ≤ gb164))
        have n9_ := Aside0.mk ((by rw [hg]; exact Nat.ne_of_lt (blk_lt (g := gb145) (o := .cells #[.int .i64 a0_0, .int .i64 a0_1, .int .i64 a0_2, .int .i64 a0_3, .string a0_4, .string a0_5] 26 (0, 0)) (by (with_reducible repeat (first | refine blk_drewN ?_ _ | refine blk_drew ?_ | refine blk_alloc ?_ _)); exact BK145.out)) : gb145 ≠ gb164))
        have n10_ := Aside0.mk ((by rw [hg]; exact Nat.ne_of_gt (blk_lt (g := gb145) (o := .cells #[.int .i64 a0_0, .int .i64 a0_1, .int .i64 a0_2, .int .i64 a0_3, .string a0_4, .string a0_5] 26 (0, 0)) (by (with_reducible repeat (first | refine blk_drewN ?_ _ | refine blk_drew ?_ | refine blk_alloc ?_ _)); exact BK145.out)) : gb164 ≠ gb145))
        have n11_ := Aside0.mk ((by rw [hg]; exact Nat.ne_of_lt (blk_lt (g := gb146) (o := .cells #[.int .i64 a1_0, .int .i64 a1_1, .int .i64 a1_2, .int .i64 a1_3, .string a1_4, .string a1_5] 26 (0, 0)) (by (with_reducible repeat (first | refine blk_drewN ?_ _ | refine blk_drew ?_ | refine blk_alloc ?_ _)); exact BK146.out)) : gb146 ≠ gb164))
        have n12_ := Aside0.mk ((by rw [hg]; exact Nat.ne_of_gt (blk_lt (g := gb146) (o := .cells #[.int .i64 a1_0, .int .i64 a1_1, .int .i64 a1_2, .int .i64 a1_3, .string a1_4, .string a1_5] 26 (0, 0)) (by (with_reducible repeat (first | refine blk_drewN ?_ _ | refine blk_drew ?_ | refine blk_alloc ?_ _)); exact BK146.out)) : gb164 ≠ gb146))
        have n13_ := Aside0.mk ((by rw [hg]; exact Nat.ne_of_lt (blk_lt (g := gb147) (o := .cells #[.int .i64 0, .int .i64 0, .int .i64 0, .int .i64 0, .string (⟨#[]⟩ : ByteArray), .string (⟨#[]⟩ : ByteArray)] 26 (0, 0)) (by (with_reducible repeat (first | refine blk_drewN ?_ _ | refine blk_drew ?_ | refine blk_alloc ?_ _)); exact BK147.out)) : gb147 ≠ gb164))
        have n14_ := Aside0.mk ((by rw [hg]; exact Nat.ne_of_gt (blk_lt (g := gb147) (o := .cells #[.int .i64 0, .int .i64 0, .int .i64 0, .int .i64 0, .string (⟨#[]⟩ : ByteArray), .string (⟨#[]⟩ : ByteArray)] 26 (0, 0)) (by (with_reducible repeat (first | refine blk_drewN ?_ _ | refine blk_drew ?_ | refine blk_alloc ?_ _)); exact BK147.out)) : gb164 ≠ gb147))
        have n15_ := Aside0.mk ((by rw [hg]; exact Nat.ne_of_lt (blk_lt (g := gb148) (o := .cells #[.int .i64 0, .int .i64 0, .int .i64 0, .int .i64 0] 24 (0, 0)) (by (with_reducible repeat (first | refine blk_drewN ?_ _ | refine blk_drew ?_ | refine blk_alloc ?_ _)); exact BK148.out)) : gb148 ≠ gb164))
        have n16_ := Aside0.mk ((by rw [hg]; exact Nat.ne_of_gt (blk_lt (g := gb148) (o := .cells #[.int .i64 0, .int .i64 0, .int .i64 0, .int .i64 0] 24 (0, 0)) (by (with_reducible repeat (first | refine blk_drewN ?_ _ | refine blk_drew ?_ | refine blk_alloc ?_ _)); exact BK148.out)) : gb164 ≠ gb148))
        have n17_ := Aside0.mk ((by rw [hg]; exact Nat.ne_of_lt (blk_lt (g := gb155) (o := .cells #[.int .i64 t151, .int .i64 t152, .int .i64 t153, .int .i64 t154] 24 (0, 0)) (by (with_reducible repeat (first | refine blk_drewN ?_ _ | refine blk_drew ?_ | refine blk_alloc ?_ _)); exact BK155.out)) : gb155 ≠ gb164))
        have n18_ := Aside0.mk ((by rw [hg]; exact Nat.ne_of_gt (blk_lt (g := gb155) (o := .cells #[.int .i64 t151, .int .i64 t152, .int .i64 t153, .int .i64 t154] 24 (0, 0)) (by (with_reducible repeat (first | refine blk_drewN ?_ _ | refine blk_drew ?_ | refine blk_alloc ?_ _)); exact BK155.out)) : gb164 ≠ gb155))
        clear BK145
        clear BK146
        clear BK147
        clear BK148
        clear BK155
        clear HB
        have BK145 := n0_
        have BK146 := n1_
        have BK147 := n2_
        have BK148 := n3_
        have BK155 := n4_
        have HB := n5_
        have BK164 := n6_
        have GW164 := n7_
        have GE164 := n8_
        have NB145_164 := n9_
        have NB164_145 := n10_
        have NB146_164 := n11_
        have NB164_146 := n12_
        have NB147_164 := n13_
        have NB164_147 := n14_
        have NB148_164 := n15_
        have NB164_148 := n16_
        have NB155_164 := n17_
        have NB164_155 := n18_
        clear n0_ n1_ n2_ n3_ n4_ n5_ n6_ n7_ n8_ n9_ n10_ n11_ n12_ n13_ n14_ n15_ n16_ n17_ n18_
        clear hb hbox hg
        refine hK.out _ _ ⟨(blk_cell BK145.out 0).trans rfl, (blk_cell BK145.out 1).trans rfl, (blk_cell BK145.out 2).trans rfl, (blk_cell BK145.out 3).trans rfl, (blk_cell BK145.out 4).trans rfl, (blk_cell BK145.out 5).trans rfl, (blk_cell BK146.out 0).trans rfl, (blk_cell BK146.out 1).trans rfl, (blk_cell BK146.out 2).trans rfl, (blk_cell BK146.out 3).trans rfl, (blk_cell BK146.out 4).trans rfl, (blk_cell BK146.out 5).trans rfl, (blk_cell BK155.out 0).trans rfl, (blk_cell BK155.out 1).trans rfl, (blk_cell BK155.out 2).trans rfl, (blk_cell BK155.out 3).trans rfl⟩ (fun hHeld => ?_)
        clear hK K
        refine norm_ (a' := ?_) ?_ ?_
        rotate_left
        ·show Act.put _ (some 8) _ = _
         simp only [Act.put, List.setIfInBounds_toArray, List.set_cons_zero, List.set_cons_succ, i64_w, i32_w]
         rfl
        refine one_ (i := 6) (N := some 40) #[true, true, true, true, true, true, true, true, true, true, true, false, true, false] rfl rfl (one_of HT_.out (by kernel_rfl)) (by decide) (fun K hK => ?_)
        refine goes_ Tryd.func39 (by kernel_rfl) rfl #[.agg #[.int .i64 t156, .int .i64 t157, .int .i64 t158, .int .i64 t159], .agg #[.int .i64 t151, .int .i64 t152, .int .i64 t153, .int .i64 t154], .int .i64 (-1)] (by rfl) rfl rfl (by (try simp only [List.map_toArray, List.map_cons, List.map_nil]); first | done | rfl | (simp only [List.length_drop, List.length_take]; rfl)) ?_
        with_reducible refine (weld_sum.calls t156 t157 t158 t159 t151 t152 t153 t154 (-1) t160 t161 t162 t163 _ A46.out).mono ?_
        rintro e w66 ⟨rfl, hb⟩
        refine ⟨_, rfl, ?_⟩
        have n0_ := Aside0.mk (blk_below (g := gb145) (o := .cells #[.int .i64 a0_0, .int .i64 a0_1, .int .i64 a0_2, .int .i64 a0_3, .string a0_4, .string a0_5] 26 (0, 0)) (by (with_reducible repeat (first | refine blk_drewN ?_ _ | refine blk_drew ?_ | refine blk_alloc ?_ _)); exact BK145.out) hb)
        have n1_ := Aside0.mk (blk_below (g := gb146) (o := .cells #[.int .i64 a1_0, .int .i64 a1_1, .int .i64 a1_2, .int .i64 a1_3, .string a1_4, .string a1_5] 26 (0, 0)) (by (with_reducible repeat (first | refine blk_drewN ?_ _ | refine blk_drew ?_ | refine blk_alloc ?_ _)); exact BK146.out) hb)
        have n2_ := Aside0.mk (blk_below (g := gb147) (o := .cells #[.int .i64 0, .int .i64 0, .int .i64 0, .int .i64 0, .string (⟨#[]⟩ : ByteArray), .string (⟨#[]⟩ : ByteArray)] 26 (0, 0)) (by (with_reducible repeat (first | refine blk_drewN ?_ _ | refine blk_drew ?_ | refine blk_alloc ?_ _)); exact BK147.out) hb)
        have n3_ := Aside0.mk (blk_below (g := gb148) (o := .cells #[.int .i64 0, .int .i64 0, .int .i64 0, .int .i64 0] 24 (0, 0)) (by (with_reducible repeat (first | refine blk_drewN ?_ _ | refine blk_drew ?_ | refine blk_alloc ?_ _)); exact BK148.out) hb)
        have n4_ := Aside0.mk (blk_below (g := gb155) (o := .cells #[.int .i64 t151, .int .i64 t152, .int .i64 t153, .int .i64 t154] 24 (0, 0)) (by (with_reducible repeat (first | refine blk_drewN ?_ _ | refine blk_drew ?_ | refine blk_alloc ?_ _)); exact BK155.out) hb)
        have n5_ := Aside0.mk (blk_below (g := gb164) (o := .cells #[.int .i64 0, .int .i64 0, .int .i64 0, .int .i64 0, .string (⟨#[]⟩ : ByteArray), .string (⟨#[]⟩ : ByteArray)] 26 (0, 0)) (by (with_reducible repeat (first | refine blk_drewN ?_ _ | refine blk_drew ?_ | refine blk_alloc ?_ _)); exact BK164.out) hb)
        have n6_ := Aside0.mk (below_step (by repeat (first | (with_reducible first | exact HB.out | apply below_alloc | apply pw_below_drewN | apply below_drew1 | refine below_set ?_ GE145.out | refine below_set ?_ GE146.out | refine below_set ?_ GE147.out | refine below_set ?_ GE148.out | refine below_set ?_ GE155.out | refine below_set ?_ GE164.out) | exact HB.out)) hb)
        clear BK145
        clear BK146
        clear BK147
        clear BK148
        clear BK155
        clear BK164
        clear HB
        have BK145 := n0_
        have BK146 := n1_
        have BK147 := n2_
        have BK148 := n3_
        have BK155 := n4_
        have BK164 := n5_
        have HB := n6_
        clear n0_ n1_ n2_ n3_ n4_ n5_ n6_
        (try clear hb)
        (try clear hb2)
        (try clear hk)
        (try clear hi)
        refine hK.out _ _ ⟨(blk_cell BK145.out 0).trans rfl, (blk_cell BK145.out 1).trans rfl, (blk_cell BK145.out 2).trans rfl, (blk_cell BK145.out 3).trans rfl, (blk_cell BK145.out 4).trans rfl, (blk_cell BK145.out 5).trans rfl, (blk_cell BK146.out 0).trans rfl, (blk_cell BK146.out 1).trans rfl, (blk_cell BK146.out 2).trans rfl, (blk_cell BK146.out 3).trans rfl, (blk_cell BK146.out 4).trans rfl, (blk_cell BK146.out 5).trans rfl, (blk_cell BK155.out 0).trans rfl, (blk_cell BK155.out 1).trans rfl, (blk_cell BK155.out 2).trans rfl, (blk_cell BK155.out 3).trans rfl⟩ (fun hHeld => ?_)
        clear hK K
        refine norm_ (a' := ?_) ?_ ?_
        rotate_left
        ·show Act.put _ (some 40) _ = _
         simp only [Act.put, List.setIfInBounds_toArray, List.set_cons_zero, List.set_cons_succ, i64_w, i32_w]
         rfl
        refine pure_ (i := 11) (N := some 45) (v := ?_) (a' := ?_) #[true, true, true, true, true, true, true, true, true, true, true, true, true, false] rfl rfl (any_of HT_.out (by kernel_rfl)) (fun _ _ _ h => h) (Or.inl ⟨by rfl, ?_⟩) ?_ ?_
        rotate_left
        ·intro w'
         go_simp
         with_reducible rfl
        rotate_left
        ·simp only [Act.put, List.setIfInBounds_toArray, List.set_cons_zero, List.set_cons_succ, i64_w, i32_w]
         rfl
        exact norm_ (by simp only [putAll, Act.put, List.setIfInBounds_toArray, List.set_cons_zero, List.set_cons_succ]) (hCont (gb164) _ ⟨hHeld, (by (with_reducible repeat (first | refine blk_drewN ?_ _ | refine blk_drew ?_ | refine blk_alloc ?_ _)); exact BK145.out), (by (with_reducible repeat (first | refine blk_drewN ?_ _ | refine blk_drew ?_ | refine blk_alloc ?_ _)); exact BK146.out), (by (with_reducible repeat (first | refine blk_drewN ?_ _ | refine blk_drew ?_ | refine blk_alloc ?_ _)); exact BK147.out), (by (with_reducible repeat (first | refine blk_drewN ?_ _ | refine blk_drew ?_ | refine blk_alloc ?_ _)); exact BK148.out), (by (with_reducible repeat (first | refine blk_drewN ?_ _ | refine blk_drew ?_ | refine blk_alloc ?_ _)); exact BK155.out), (by (with_reducible repeat (first | refine blk_drewN ?_ _ | refine blk_drew ?_ | refine blk_alloc ?_ _)); exact BK164.out), GW164.out, GE164.out, NB145_164.out, NB164_145.out, NB146_164.out, NB164_146.out, NB147_164.out, NB164_147.out, NB148_164.out, NB164_148.out, NB155_164.out, NB164_155.out, (by repeat (first | (with_reducible first | exact HB.out | apply below_alloc | apply pw_below_drewN | apply below_drew1 | refine below_set ?_ GE145.out | refine below_set ?_ GE146.out | refine below_set ?_ GE147.out | refine below_set ?_ GE148.out | refine below_set ?_ GE155.out | refine below_set ?_ GE164.out) | exact HB.out))⟩)
      ·skip
       refine box_step ?hg (N := 8) ?hd (cs := #[.int .i64 0, .int .i64 0, .int .i64 0, .int .i64 0, .string (⟨#[]⟩ : ByteArray), .string (⟨#[]⟩ : ByteArray)]) (t := 26) ?hr ?_; (case hd => rfl); (case hg => rfl); (case hr => first | (go_simp; done) | (go_simp; rfl))
       intro gb164 hg w64 hbox hb
       have n0_ := Aside0.mk (blk_below (g := gb145) (o := .cells #[.int .i64 a0_0, .int .i64 a0_1, .int .i64 a0_2, .int .i64 a0_3, .string a0_4, .string a0_5] 26 (0, 0)) (by (with_reducible repeat (first | refine blk_drewN ?_ _ | refine blk_drew ?_ | refine blk_alloc ?_ _)); exact BK145.out) hb)
       have n1_ := Aside0.mk (blk_below (g := gb146) (o := .cells #[.int .i64 a1_0, .int .i64 a1_1, .int .i64 a1_2, .int .i64 a1_3, .string a1_4, .string a1_5] 26 (0, 0)) (by (with_reducible repeat (first | refine blk_drewN ?_ _ | refine blk_drew ?_ | refine blk_alloc ?_ _)); exact BK146.out) hb)
       have n2_ := Aside0.mk (blk_below (g := gb147) (o := .cells #[.int .i64 0, .int .i64 0, .int .i64 0, .int .i64 0, .string (⟨#[]⟩ : ByteArray), .string (⟨#[]⟩ : ByteArray)] 26 (0, 0)) (by (with_reducible repeat (first | refine blk_drewN ?_ _ | refine blk_drew ?_ | refine blk_alloc ?_ _)); exact BK147.out) hb)
       have n3_ := Aside0.mk (blk_below (g := gb148) (o := .cells #[.int .i64 0, .int .i64 0, .int .i64 0, .int .i64 0] 24 (0, 0)) (by (with_reducible repeat (first | refine blk_drewN ?_ _ | refine blk_drew ?_ | refine blk_alloc ?_ _)); exact BK148.out) hb)
       have n4_ := Aside0.mk (blk_below (g := gb155) (o := .cells #[.int .i64 t151, .int .i64 t152, .int .i64 t153, .int .i64 t154] 24 (0, 0)) (by (with_reducible repeat (first | refine blk_drewN ?_ _ | refine blk_drew ?_ | refine blk_alloc ?_ _)); exact BK155.out) hb)
       have n5_ := Aside0.mk (below_step (by repeat (first | (with_reducible first | exact HB.out | apply below_alloc | apply pw_below_drewN | apply below_drew1 | refine below_set ?_ GE145.out | refine below_set ?_ GE146.out | refine below_set ?_ GE147.out | refine below_set ?_ GE148.out | refine below_set ?_ GE155.out) | exact HB.out)) hb)
       have n6_ := Aside0.mk (hbox)
       have n7_ := Aside0.mk ((by rw [hg]; exact (below_size (by repeat (first | (with_reducible first | exact HB.out | apply below_alloc | apply pw_below_drewN | apply below_drew1 | refine below_set ?_ GE145.out | refine below_set ?_ GE146.out | refine below_set ?_ GE147.out | refine below_set ?_ GE148.out | refine below_set ?_ GE155.out) | exact HB.out))) : w.heap.size ≤ gb164))
       have n8_ := Aside0.mk ((by rw [hg]; exact (below_size (by repeat (first | (with_reducible first | exact HB.out | apply below_alloc | apply pw_below_drewN | apply below_drew1 | refine below_set ?_ GE145.out | refine below_set ?_ GE146.out | refine below_set ?_ GE147.out | refine below_set ?_ GE148.out | refine below_set ?_ GE155.out) | exact HB.out))) : w.heap.size ≤ gb164))
       have n9_ := Aside0.mk ((by rw [hg]; exact Nat.ne_of_lt (blk_lt (g := gb145) (o := .cells #[.int .i64 a0_0, .int .i64 a0_1, .int .i64 a0_2, .int .i64 a0_3, .string a0_4, .string a0_5] 26 (0, 0)) (by (with_reducible repeat (first | refine blk_drewN ?_ _ | refine blk_drew ?_ | refine blk_alloc ?_ _)); exact BK145.out)) : gb145 ≠ gb164))
       have n10_ := Aside0.mk ((by rw [hg]; exact Nat.ne_of_gt (blk_lt (g := gb145) (o := .cells #[.int .i64 a0_0, .int .i64 a0_1, .int .i64 a0_2, .int .i64 a0_3, .string a0_4, .string a0_5] 26 (0, 0)) (by (with_reducible repeat (first | refine blk_drewN ?_ _ | refine blk_drew ?_ | refine blk_alloc ?_ _)); exact BK145.out)) : gb164 ≠ gb145))
       have n11_ := Aside0.mk ((by rw [hg]; exact Nat.ne_of_lt (blk_lt (g := gb146) (o := .cells #[.int .i64 a1_0, .int .i64 a1_1, .int .i64 a1_2, .int .i64 a1_3, .string a1_4, .string a1_5] 26 (0, 0)) (by (with_reducible repeat (first | refine blk_drewN ?_ _ | refine blk_drew ?_ | refine blk_alloc ?_ _)); exact BK146.out)) : gb146 ≠ gb164))
       have n12_ := Aside0.mk ((by rw [hg]; exact Nat.ne_of_gt (blk_lt (g := gb146) (o := .cells #[.int .i64 a1_0, .int .i64 a1_1, .int .i64 a1_2, .int .i64 a1_3, .string a1_4, .string a1_5] 26 (0, 0)) (by (with_reducible repeat (first | refine blk_drewN ?_ _ | refine blk_drew ?_ | refine blk_alloc ?_ _)); exact BK146.out)) : gb164 ≠ gb146))
       have n13_ := Aside0.mk ((by rw [hg]; exact Nat.ne_of_lt (blk_lt (g := gb147) (o := .cells #[.int .i64 0, .int .i64 0, .int .i64 0, .int .i64 0, .string (⟨#[]⟩ : ByteArray), .string (⟨#[]⟩ : ByteArray)] 26 (0, 0)) (by (with_reducible repeat (first | refine blk_drewN ?_ _ | refine blk_drew ?_ | refine blk_alloc ?_ _)); exact BK147.out)) : gb147 ≠ gb164))
       have n14_ := Aside0.mk ((by rw [hg]; exact Nat.ne_of_gt (blk_lt (g := gb147) (o := .cells #[.int .i64 0, .int .i64 0, .int .i64 0, .int .i64 0, .string (⟨#[]⟩ : ByteArray), .string (⟨#[]⟩ : ByteArray)] 26 (0, 0)) (by (with_reducible repeat (first | refine blk_drewN ?_ _ | refine blk_drew ?_ | refine blk_alloc ?_ _)); exact BK147.out)) : gb164 ≠ gb147))
       have n15_ := Aside0.mk ((by rw [hg]; exact Nat.ne_of_lt (blk_lt (g := gb148) (o := .cells #[.int .i64 0, .int .i64 0, .int .i64 0, .int .i64 0] 24 (0, 0)) (by (with_reducible repeat (first | refine blk_drewN ?_ _ | refine blk_drew ?_ | refine blk_alloc ?_ _)); exact BK148.out)) : gb148 ≠ gb164))
       have n16_ := Aside0.mk ((by rw [hg]; exact Nat.ne_of_gt (blk_lt (g := gb148) (o := .cells #[.int .i64 0, .int .i64 0, .int .i64 0, .int .i64 0] 24 (0, 0)) (by (with_reducible repeat (first | refine blk_drewN ?_ _ | refine blk_drew ?_ | refine blk_alloc ?_ _)); exact BK148.out)) : gb164 ≠ gb148))
       have n17_ := Aside0.mk ((by rw [hg]; exact Nat.ne_of_lt (blk_lt (g := gb155) (o := .cells #[.int .i64 t151, .int .i64 t152, .int .i64 t153, .int .i64 t154] 24 (0, 0)) (by (with_reducible repeat (first | refine blk_drewN ?_ _ | refine blk_drew ?_ | refine blk_alloc ?_ _)); exact BK155.out)) : gb155 ≠ gb164))
       have n18_ := Aside0.mk ((by rw [hg]; exact Nat.ne_of_gt (blk_lt (g := gb155) (o := .cells #[.int .i64 t151, .int .i64 t152, .int .i64 t153, .int .i64 t154] 24 (0, 0)) (by (with_reducible repeat (first | refine blk_drewN ?_ _ | refine blk_drew ?_ | refine blk_alloc ?_ _)); exact BK155.out)) : gb164 ≠ gb155))
       clear BK145
       clear BK146
       clear BK147
       clear BK148
       clear BK155
       clear HB
       have BK145 := n0_
       have BK146 := n1_
       have BK147 := n2_
       have BK148 := n3_
       have BK155 := n4_
       have HB := n5_
       have BK164 := n6_
       have GW164 := n7_
       have GE164 := n8_
       have NB145_164 := n9_
       have NB164_145 := n10_
       have NB146_164 := n11_
       have NB164_146 := n12_
       have NB147_164 := n13_
       have NB164_147 := n14_
       have NB148_164 := n15_
       have NB164_148 := n16_
       have NB155_164 := n17_
       have NB164_155 := n18_
       clear n0_ n1_ n2_ n3_ n4_ n5_ n6_ n7_ n8_ n9_ n10_ n11_ n12_ n13_ n14_ n15_ n16_ n17_ n18_
       clear hb hbox hg
       refine hK.out _ _ ⟨(blk_cell BK145.out 0).trans rfl, (blk_cell BK145.out 1).trans rfl, (blk_cell BK145.out 2).trans rfl, (blk_cell BK145.out 3).trans rfl, (blk_cell BK145.out 4).trans rfl, (blk_cell BK145.out 5).trans rfl, (blk_cell BK146.out 0).trans rfl, (blk_cell BK146.out 1).trans rfl, (blk_cell BK146.out 2).trans rfl, (blk_cell BK146.out 3).trans rfl, (blk_cell BK146.out 4).trans rfl, (blk_cell BK146.out 5).trans rfl, (blk_cell BK155.out 0).trans rfl, (blk_cell BK155.out 1).trans rfl, (blk_cell BK155.out 2).trans rfl, (blk_cell BK155.out 3).trans rfl⟩ (fun hHeld => ?_)
       clear hK K
       refine norm_ (a' := ?_) ?_ ?_
       rotate_left
       ·show Act.put _ (some 8) _ = _
        simp only [Act.put, List.setIfInBounds_toArray, List.set_cons_zero, List.set_cons_succ, i64_w, i32_w]
        rfl
       refine one_ (i := 4) (N := some 38) #[true, true, true, true, true, true, false, true, true, true, true, false, true, false] rfl rfl (one_of HT_.out (by kernel_rfl)) (by decide) (fun K hK => ?_)
       refine goes_ Tryd.func39 (by kernel_rfl) rfl #[.agg #[.int .i64 a0_0, .int .i64 a0_1, .int .i64 a0_2, .int .i64 a0_3], .agg #[.int .i64 a1_0, .int .i64 a1_1, .int .i64 a1_2, .int .i64 a1_3], .int .i64 1] (by rfl) rfl rfl (by (try simp only [List.map_toArray, List.map_cons, List.map_nil]); first | done | rfl | (simp only [List.length_drop, List.length_take]; rfl)) ?_
       with_reducible refine (weld_sum.calls a0_0 a0_1 a0_2 a0_3 a1_0 a1_1 a1_2 a1_3 1 t156 t157 t158 t159 _ A45.out).mono ?_
       rintro e w65 ⟨rfl, hb⟩
       refine ⟨_, rfl, ?_⟩
       have n0_ := Aside0.mk (blk_below (g := gb145) (o := .cells #[.int .i64 a0_0, .int .i64 a0_1, .int .i64 a0_2, .int .i64 a0_3, .string a0_4, .string a0_5] 26 (0, 0)) (by (with_reducible repeat (first | refine blk_drewN ?_ _ | refine blk_drew ?_ | refine blk_alloc ?_ _)); exact BK145.out) hb)
       have n1_ := Aside0.mk (blk_below (g := gb146) (o := .cells #[.int .i64 a1_0, .int .i64 a1_1, .int .i64 a1_2, .int .i64 a1_3, .string a1_4, .string a1_5] 26 (0, 0)) (by (with_reducible repeat (first | refine blk_drewN ?_ _ | refine blk_drew ?_ | refine blk_alloc ?_ _)); exact BK146.out) hb)
       have n2_ := Aside0.mk (blk_below (g := gb147) (o := .cells #[.int .i64 0, .int .i64 0, .int .i64 0, .int .i64 0, .string (⟨#[]⟩ : ByteArray), .string (⟨#[]⟩ : ByteArray)] 26 (0, 0)) (by (with_reducible repeat (first | refine blk_drewN ?_ _ | refine blk_drew ?_ | refine blk_alloc ?_ _)); exact BK147.out) hb)
       have n3_ := Aside0.mk (blk_below (g := gb148) (o := .cells #[.int .i64 0, .int .i64 0, .int .i64 0, .int .i64 0] 24 (0, 0)) (by (with_reducible repeat (first | refine blk_drewN ?_ _ | refine blk_drew ?_ | refine blk_alloc ?_ _)); exact BK148.out) hb)
       have n4_ := Aside0.mk (blk_below (g := gb155) (o := .cells #[.int .i64 t151, .int .i64 t152, .int .i64 t153, .int .i64 t154] 24 (0, 0)) (by (with_reducible repeat (first | refine blk_drewN ?_ _ | refine blk_drew ?_ | refine blk_alloc ?_ _)); exact BK155.out) hb)
       have n5_ := Aside0.mk (blk_below (g := gb164) (o := .cells #[.int .i64 0, .int .i64 0, .int .i64 0, .int .i64 0, .string (⟨#[]⟩ : ByteArray), .string (⟨#[]⟩ : ByteArray)] 26 (0, 0)) (by (with_reducible repeat (first | refine blk_drewN ?_ _ | refine blk_drew ?_ | refine blk_alloc ?_ _)); exact BK164.out) hb)
       have n6_ := Aside0.mk (below_step (by repeat (first | (with_reducible first | exact HB.out | apply below_alloc | apply pw_below_drewN | apply below_drew1 | refine below_set ?_ GE145.out | refine below_set ?_ GE146.out | refine below_set ?_ GE147.out | refine below_set ?_ GE148.out | refine below_set ?_ GE155.out | refine below_set ?_ GE164.out) | exact HB.out)) hb)
       clear BK145
       clear BK146
       clear BK147
       clear BK148
       clear BK155
       clear BK164
       clear HB
       have BK145 := n0_
       have BK146 := n1_
       have BK147 := n2_
       have BK148 := n3_
       have BK155 := n4_
       have BK164 := n5_
       have HB := n6_
       clear n0_ n1_ n2_ n3_ n4_ n5_ n6_
       (try clear hb)
       (try clear hb2)
       (try clear hk)
       (try clear hi)
       refine hK.out _ _ ⟨(blk_cell BK145.out 0).trans rfl, (blk_cell BK145.out 1).trans rfl, (blk_cell BK145.out 2).trans rfl, (blk_cell BK145.out 3).trans rfl, (blk_cell BK145.out 4).trans rfl, (blk_cell BK145.out 5).trans rfl, (blk_cell BK146.out 0).trans rfl, (blk_cell BK146.out 1).trans rfl, (blk_cell BK146.out 2).trans rfl, (blk_cell BK146.out 3).trans rfl, (blk_cell BK146.out 4).trans rfl, (blk_cell BK146.out 5).trans rfl, (blk_cell BK155.out 0).trans rfl, (blk_cell BK155.out 1).trans rfl, (blk_cell BK155.out 2).trans rfl, (blk_cell BK155.out 3).trans rfl⟩ (fun hHeld => ?_)
       clear hK K
       refine norm_ (a' := ?_) ?_ ?_
       rotate_left
       ·show Act.put _ (some 38) _ = _
        simp only [Act.put, List.setIfInBounds_toArray, List.set_cons_zero, List.set_cons_succ, i64_w, i32_w]
        rfl
       refine one_ (i := 6) (N := some 40) #[true, true, true, true, true, true, true, true, true, true, true, false, true, false] rfl rfl (one_of HT_.out (by kernel_rfl)) (by decide) (fun K hK => ?_)
       refine goes_ Tryd.func39 (by kernel_rfl) rfl #[.agg #[.int .i64 t156, .int .i64 t157, .int .i64 t158, .int .i64 t159], .agg #[.int .i64 t151, .int .i64 t152, .int .i64 t153, .int .i64 t154], .int .i64 (-1)] (by rfl) rfl rfl (by (try simp only [List.map_toArray, List.map_cons, List.map_nil]); first | done | rfl | (simp only [List.length_drop, List.length_take]; rfl)) ?_
       with_reducible refine (weld_sum.calls t156 t157 t158 t159 t151 t152 t153 t154 (-1) t160 t161 t162 t163 _ A46.out).mono ?_
       rintro e w66 ⟨rfl, hb⟩
       refine ⟨_, rfl, ?_⟩
       have n0_ := Aside0.mk (blk_below (g := gb145) (o := .cells #[.int .i64 a0_0, .int .i64 a0_1, .int .i64 a0_2, .int .i64 a0_3, .string a0_4, .string a0_5] 26 (0, 0)) (by (with_reducible repeat (first | refine blk_drewN ?_ _ | refine blk_drew ?_ | refine blk_alloc ?_ _)); exact BK145.out) hb)
       have n1_ := Aside0.mk (blk_below (g := gb146) (o := .cells #[.int .i64 a1_0, .int .i64 a1_1, .int .i64 a1_2, .int .i64 a1_3, .string a1_4, .string a1_5] 26 (0, 0)) (by (with_reducible repeat (first | refine blk_drewN ?_ _ | refine blk_drew ?_ | refine blk_alloc ?_ _)); exact BK146.out) hb)
       have n2_ := Aside0.mk (blk_below (g := gb147) (o := .cells #[.int .i64 0, .int .i64 0, .int .i64 0, .int .i64 0, .string (⟨#[]⟩ : ByteArray), .string (⟨#[]⟩ : ByteArray)] 26 (0, 0)) (by (with_reducible repeat (first | refine blk_drewN ?_ _ | refine blk_drew ?_ | refine blk_alloc ?_ _)); exact BK147.out) hb)
       have n3_ := Aside0.mk (blk_below (g := gb148) (o := .cells #[.int .i64 0, .int .i64 0, .int .i64 0, .int .i64 0] 24 (0, 0)) (by (with_reducible repeat (first | refine blk_drewN ?_ _ | refine blk_drew ?_ | refine blk_alloc ?_ _)); exact BK148.out) hb)
       have n4_ := Aside0.mk (blk_below (g := gb155) (o := .cells #[.int .i64 t151, .int .i64 t152, .int .i64 t153, .int .i64 t154] 24 (0, 0)) (by (with_reducible repeat (first | refine blk_drewN ?_ _ | refine blk_drew ?_ | refine blk_alloc ?_ _)); exact BK155.out) hb)
       have n5_ := Aside0.mk (blk_below (g := gb164) (o := .cells #[.int .i64 0, .int .i64 0, .int .i64 0, .int .i64 0, .string (⟨#[]⟩ : ByteArray), .string (⟨#[]⟩ : ByteArray)] 26 (0, 0)) (by (with_reducible repeat (first | refine blk_drewN ?_ _ | refine blk_drew ?_ | refine blk_alloc ?_ _)); exact BK164.out) hb)
       have n6_ := Aside0.mk (below_step (by repeat (first | (with_reducible first | exact HB.out | apply below_alloc | apply pw_below_drewN | apply below_drew1 | refine below_set ?_ GE145.out | refine below_set ?_ GE146.out | refine below_set ?_ GE147.out | refine below_set ?_ GE148.out | refine below_set ?_ GE155.out | refine below_set ?_ GE164.out) | exact HB.out)) hb)
       clear BK145
       clear BK146
       clear BK147
       clear BK148
       clear BK155
       clear BK164
       clear HB
       have BK145 := n0_
       have BK146 := n1_
       have BK147 := n2_
       have BK148 := n3_
       have BK155 := n4_
       have BK164 := n5_
       have HB := n6_
       clear n0_ n1_ n2_ n3_ n4_ n5_ n6_
       (try clear hb)
       (try clear hb2)
       (try clear hk)
       (try clear hi)
       refine hK.out _ _ ⟨(blk_cell BK145.out 0).trans rfl, (blk_cell BK145.out 1).trans rfl, (blk_cell BK145.out 2).trans rfl, (blk_cell BK145.out 3).trans rfl, (blk_cell BK145.out 4).trans rfl, (blk_cell BK145.out 5).trans rfl, (blk_cell BK146.out 0).trans rfl, (blk_cell BK146.out 1).trans rfl, (blk_cell BK146.out 2).trans rfl, (blk_cell BK146.out 3).trans rfl, (blk_cell BK146.out 4).trans rfl, (blk_cell BK146.out 5).trans rfl, (blk_cell BK155.out 0).trans rfl, (blk_cell BK155.out 1).trans rfl, (blk_cell BK155.out 2).trans rfl, (blk_cell BK155.out 3).trans rfl⟩ (fun hHeld => ?_)
       clear hK K
       refine norm_ (a' := ?_) ?_ ?_
       rotate_left
       ·show Act.put _ (some 40) _ = _
        simp only [Act.put, List.setIfInBounds_toArray, List.set_cons_zero, List.set_cons_succ, i64_w, i32_w]
        rfl
       refine pure_ (i := 11) (N := some 45) (v := ?_) (a' := ?_) #[true, true, true, true, true, true, true, true, true, true, true, true, true, false] rfl rfl (any_of HT_.out (by kernel_rfl)) (fun _ _ _ h => h) (Or.inl ⟨by rfl, ?_⟩) ?_ ?_
       rotate_left
       ·intro w'
        go_simp
        with_reducible rfl
       rotate_left
       ·simp only [Act.put, List.setIfInBounds_toArray, List.set_cons_zero, List.set_cons_succ, i64_w, i32_w]
        rfl
       exact norm_ (by simp only [putAll, Act.put, List.setIfInBounds_toArray, List.set_cons_zero, List.set_cons_succ]) (hCont (gb164) _ ⟨hHeld, (by (with_reducible repeat (first | refine blk_drewN ?_ _ | refine blk_drew ?_ | refine blk_alloc ?_ _)); exact BK145.out), (by (with_reducible repeat (first | refine blk_drewN ?_ _ | refine blk_drew ?_ | refine blk_alloc ?_ _)); exact BK146.out), (by (with_reducible repeat (first | refine blk_drewN ?_ _ | refine blk_drew ?_ | refine blk_alloc ?_ _)); exact BK147.out), (by (with_reducible repeat (first | refine blk_drewN ?_ _ | refine blk_drew ?_ | refine blk_alloc ?_ _)); exact BK148.out), (by (with_reducible repeat (first | refine blk_drewN ?_ _ | refine blk_drew ?_ | refine blk_alloc ?_ _)); exact BK155.out), (by (with_reducible repeat (first | refine blk_drewN ?_ _ | refine blk_drew ?_ | refine blk_alloc ?_ _)); exact BK164.out), GW164.out, GE164.out, NB145_164.out, NB164_145.out, NB146_164.out, NB164_146.out, NB147_164.out, NB164_147.out, NB148_164.out, NB164_148.out, NB155_164.out, NB164_155.out, (by repeat (first | (with_reducible first | exact HB.out | apply below_alloc | apply pw_below_drewN | apply below_drew1 | refine below_set ?_ GE145.out | refine below_set ?_ GE146.out | refine below_set ?_ GE147.out | refine below_set ?_ GE148.out | refine below_set ?_ GE155.out | refine below_set ?_ GE164.out) | exact HB.out))⟩)
     rintro gb164 w67 ⟨hS_, h0_, h1_, h2_, h3_, h4_, h5_, h6_, h7_, h8_, h9_, h10_, h11_, h12_, h13_, h14_, h15_, h16_, h17_, h18_⟩
     have n0_ : Aside0 (w67.heap[gb145]? = some (.cells #[.int .i64 a0_0, .int .i64 a0_1, .int .i64 a0_2, .int .i64 a0_3, .string a0_4, .string a0_5] 26 (0, 0))) := ⟨h0_⟩
     have n1_ : Aside0 (w67.heap[gb146]? = some (.cells #[.int .i64 a1_0, .int .i64 a1_1, .int .i64 a1_2, .int .i64 a1_3, .string a1_4, .string a1_5] 26 (0, 0))) := ⟨h1_⟩
     have n2_ : Aside0 (w67.heap[gb147]? = some (.cells #[.int .i64 0, .int .i64 0, .int .i64 0, .int .i64 0, .string (⟨#[]⟩ : ByteArray), .string (⟨#[]⟩ : ByteArray)] 26 (0, 0))) := ⟨h2_⟩
     have n3_ : Aside0 (w67.heap[gb148]? = some (.cells #[.int .i64 0, .int .i64 0, .int .i64 0, .int .i64 0] 24 (0, 0))) := ⟨h3_⟩
     have n4_ : Aside0 (w67.heap[gb155]? = some (.cells #[.int .i64 t151, .int .i64 t152, .int .i64 t153, .int .i64 t154] 24 (0, 0))) := ⟨h4_⟩
     have n5_ : Aside0 (w67.heap[gb164]? = some (.cells #[.int .i64 0, .int .i64 0, .int .i64 0, .int .i64 0, .string (⟨#[]⟩ : ByteArray), .string (⟨#[]⟩ : ByteArray)] 26 (0, 0))) := ⟨h5_⟩
     have n6_ : Aside0 (w.heap.size ≤ gb164) := ⟨h6_⟩
     have n7_ : Aside0 (w.heap.size ≤ gb164) := ⟨h7_⟩
     have n8_ : Aside0 (gb145 ≠ gb164) := ⟨h8_⟩
     have n9_ : Aside0 (gb164 ≠ gb145) := ⟨h9_⟩
     have n10_ : Aside0 (gb146 ≠ gb164) := ⟨h10_⟩
     have n11_ : Aside0 (gb164 ≠ gb146) := ⟨h11_⟩
     have n12_ : Aside0 (gb147 ≠ gb164) := ⟨h12_⟩
     have n13_ : Aside0 (gb164 ≠ gb147) := ⟨h13_⟩
     have n14_ : Aside0 (gb148 ≠ gb164) := ⟨h14_⟩
     have n15_ : Aside0 (gb164 ≠ gb148) := ⟨h15_⟩
     have n16_ : Aside0 (gb155 ≠ gb164) := ⟨h16_⟩
     have n17_ : Aside0 (gb164 ≠ gb155) := ⟨h17_⟩
     have n18_ : Aside0 (Below w.heap.size w w67) := ⟨h18_⟩
     clear BK145
     clear BK146
     clear BK147
     clear BK148
     clear BK155
     clear HB
     clear h0_ h1_ h2_ h3_ h4_ h5_ h6_ h7_ h8_ h9_ h10_ h11_ h12_ h13_ h14_ h15_ h16_ h17_ h18_
     have BK145 := n0_
     have BK146 := n1_
     have BK147 := n2_
     have BK148 := n3_
     have BK155 := n4_
     have BK164 := n5_
     have GW164 := n6_
     have GE164 := n7_
     have NB145_164 := n8_
     have NB164_145 := n9_
     have NB146_164 := n10_
     have NB164_146 := n11_
     have NB147_164 := n12_
     have NB164_147 := n13_
     have NB148_164 := n14_
     have NB164_148 := n15_
     have NB155_164 := n16_
     have NB164_155 := n17_
     have HB := n18_
     clear n0_ n1_ n2_ n3_ n4_ n5_ n6_ n7_ n8_ n9_ n10_ n11_ n12_ n13_ n14_ n15_ n16_ n17_ n18_
     have hHeld : w67.cell? ⟨gb145, 0, none⟩ = some (.int .i64 a0_0) ∧ w67.cell? ⟨gb145, 1, none⟩ = some (.int .i64 a0_1) ∧ w67.cell? ⟨gb145, 2, none⟩ = some (.int .i64 a0_2) ∧ w67.cell? ⟨gb145, 3, none⟩ = some (.int .i64 a0_3) ∧ w67.cell? ⟨gb145, 4, none⟩ = some (.string a0_4) ∧ w67.cell? ⟨gb145, 5, none⟩ = some (.string a0_5) ∧ w67.cell? ⟨gb146, 0, none⟩ = some (.int .i64 a1_0) ∧ w67.cell? ⟨gb146, 1, none⟩ = some (.int .i64 a1_1) ∧ w67.cell? ⟨gb146, 2, none⟩ = some (.int .i64 a1_2) ∧ w67.cell? ⟨gb146, 3, none⟩ = some (.int .i64 a1_3) ∧ w67.cell? ⟨gb146, 4, none⟩ = some (.string a1_4) ∧ w67.cell? ⟨gb146, 5, none⟩ = some (.string a1_5) ∧ w67.cell? ⟨gb155, 0, none⟩ = some (.int .i64 t151) ∧ w67.cell? ⟨gb155, 1, none⟩ = some (.int .i64 t152) ∧ w67.cell? ⟨gb155, 2, none⟩ = some (.int .i64 t153) ∧ w67.cell? ⟨gb155, 3, none⟩ = some (.int .i64 t154) := hS_
     refine norm_ (a' := ?_) ?_ ?_
     rotate_left
     ·simp only [putAll, Act.put, List.setIfInBounds_toArray, List.set_cons_zero, List.set_cons_succ]
      rfl
     refine one_ (i := 13) (N := none) #[true, true, true, true, true, true, true, true, true, true, true, true, true, true] rfl rfl (one_of HT_.out (by kernel_rfl)) (by decide) (fun K hK => ?_)
     have hs68 : w67.cell? ⟨gb164, 0, none⟩ = some (.int .i64 0) := (blk_cell BK164.out 0).trans rfl
     have hfs68 := blk_frozen BK164.out 0
     have hns68_0 := NB145_164.out
     have hns68_1 := NB146_164.out
     have hns68_2 := NB147_164.out
     have hns68_3 := NB148_164.out
     have hns68_4 := NB155_164.out
     have hms68_0 := NB164_145.out
     have hms68_1 := NB164_146.out
     have hms68_2 := NB164_147.out
     have hms68_3 := NB164_148.out
     have hms68_4 := NB164_155.out
     have hs69 : w67.cell? ⟨gb164, 1, none⟩ = some (.int .i64 0) := (blk_cell BK164.out 1).trans rfl
     have hfs69 := blk_frozen BK164.out 1
     have hns69_0 := NB145_164.out
     have hns69_1 := NB146_164.out
     have hns69_2 := NB147_164.out
     have hns69_3 := NB148_164.out
     have hns69_4 := NB155_164.out
     have hms69_0 := NB164_145.out
     have hms69_1 := NB164_146.out
     have hms69_2 := NB164_147.out
     have hms69_3 := NB164_148.out
     have hms69_4 := NB164_155.out
     have hs70 : w67.cell? ⟨gb164, 2, none⟩ = some (.int .i64 0) := (blk_cell BK164.out 2).trans rfl
     have hfs70 := blk_frozen BK164.out 2
     have hns70_0 := NB145_164.out
     have hns70_1 := NB146_164.out
     have hns70_2 := NB147_164.out
     have hns70_3 := NB148_164.out
     have hns70_4 := NB155_164.out
     have hms70_0 := NB164_145.out
     have hms70_1 := NB164_146.out
     have hms70_2 := NB164_147.out
     have hms70_3 := NB164_148.out
     have hms70_4 := NB164_155.out
     have hs71 : w67.cell? ⟨gb164, 3, none⟩ = some (.int .i64 0) := (blk_cell BK164.out 3).trans rfl
     have hfs71 := blk_frozen BK164.out 3
     have hns71_0 := NB145_164.out
     have hns71_1 := NB146_164.out
     have hns71_2 := NB147_164.out
     have hns71_3 := NB148_164.out
     have hns71_4 := NB155_164.out
     have hms71_0 := NB164_145.out
     have hms71_1 := NB164_146.out
     have hms71_2 := NB164_147.out
     have hms71_3 := NB164_148.out
     have hms71_4 := NB164_155.out
     have hs72 : w67.cell? ⟨gb164, 4, none⟩ = some (.string (⟨#[]⟩ : ByteArray)) := (blk_cell BK164.out 4).trans rfl
     have hfs72 := blk_frozen BK164.out 4
     have hns72_0 := NB145_164.out
     have hns72_1 := NB146_164.out
     have hns72_2 := NB147_164.out
     have hns72_3 := NB148_164.out
     have hns72_4 := NB155_164.out
     have hms72_0 := NB164_145.out
     have hms72_1 := NB164_146.out
     have hms72_2 := NB164_147.out
     have hms72_3 := NB164_148.out
     have hms72_4 := NB164_155.out
     have hs73 : w67.cell? ⟨gb164, 5, none⟩ = some (.string (⟨#[]⟩ : ByteArray)) := (blk_cell BK164.out 5).trans rfl
     have hfs73 := blk_frozen BK164.out 5
     have hns73_0 := NB145_164.out
     have hns73_1 := NB146_164.out
     have hns73_2 := NB147_164.out
     have hns73_3 := NB148_164.out
     have hns73_4 := NB155_164.out
     have hms73_0 := NB164_145.out
     have hms73_1 := NB164_146.out
     have hms73_2 := NB164_147.out
     have hms73_3 := NB164_148.out
     have hms73_4 := NB164_155.out
     refine skip_ (w1 := ?_) (by rfl) rfl ?_ ?_
     rotate_left
     ·go_simp
      rfl
     refine hK.out _ _ ⟨((cell_far (p := ⟨gb164, _, none⟩) NB145_164.out _).trans (((cell_far (p := ⟨gb164, _, none⟩) NB145_164.out _).trans (((cell_far (p := ⟨gb164, _, none⟩) NB145_164.out _).trans (((cell_far (p := ⟨gb164, _, none⟩) NB145_164.out _).trans (((cell_far (p := ⟨gb164, _, none⟩) NB145_164.out _).trans (((cell_far (p := ⟨gb164, _, none⟩) NB145_164.out _).trans (hHeld.1)))))))))))), ((cell_far (p := ⟨gb164, _, none⟩) NB145_164.out _).trans (((cell_far (p := ⟨gb164, _, none⟩) NB145_164.out _).trans (((cell_far (p := ⟨gb164, _, none⟩) NB145_164.out _).trans (((cell_far (p := ⟨gb164, _, none⟩) NB145_164.out _).trans (((cell_far (p := ⟨gb164, _, none⟩) NB145_164.out _).trans (((cell_far (p := ⟨gb164, _, none⟩) NB145_164.out _).trans (hHeld.2.1)))))))))))), ((cell_far (p := ⟨gb164, _, none⟩) NB145_164.out _).trans (((cell_far (p := ⟨gb164, _, none⟩) NB145_164.out _).trans (((cell_far (p := ⟨gb164, _, none⟩) NB145_164.out _).trans (((cell_far (p := ⟨gb164, _, none⟩) NB145_164.out _).trans (((cell_far (p := ⟨gb164, _, none⟩) NB145_164.out _).trans (((cell_far (p := ⟨gb164, _, none⟩) NB145_164.out _).trans (hHeld.2.2.1)))))))))))), ((cell_far (p := ⟨gb164, _, none⟩) NB145_164.out _).trans (((cell_far (p := ⟨gb164, _, none⟩) NB145_164.out _).trans (((cell_far (p := ⟨gb164, _, none⟩) NB145_164.out _).trans (((cell_far (p := ⟨gb164, _, none⟩) NB145_164.out _).trans (((cell_far (p := ⟨gb164, _, none⟩) NB145_164.out _).trans (((cell_far (p := ⟨gb164, _, none⟩) NB145_164.out _).trans (hHeld.2.2.2.1)))))))))))), ((cell_far (p := ⟨gb164, _, none⟩) NB145_164.out _).trans (((cell_far (p := ⟨gb164, _, none⟩) NB145_164.out _).trans (((cell_far (p := ⟨gb164, _, none⟩) NB145_164.out _).trans (((cell_far (p := ⟨gb164, _, none⟩) NB145_164.out _).trans (((cell_far (p := ⟨gb164, _, none⟩) NB145_164.out _).trans (((cell_far (p := ⟨gb164, _, none⟩) NB145_164.out _).trans (hHeld.2.2.2.2.1)))))))))))), ((cell_far (p := ⟨gb164, _, none⟩) NB145_164.out _).trans (((cell_far (p := ⟨gb164, _, none⟩) NB145_164.out _).trans (((cell_far (p := ⟨gb164, _, none⟩) NB145_164.out _).trans (((cell_far (p := ⟨gb164, _, none⟩) NB145_164.out _).trans (((cell_far (p := ⟨gb164, _, none⟩) NB145_164.out _).trans (((cell_far (p := ⟨gb164, _, none⟩) NB145_164.out _).trans (hHeld.2.2.2.2.2.1)))))))))))), ((cell_far (p := ⟨gb164, _, none⟩) NB146_164.out _).trans (((cell_far (p := ⟨gb164, _, none⟩) NB146_164.out _).trans (((cell_far (p := ⟨gb164, _, none⟩) NB146_164.out _).trans (((cell_far (p := ⟨gb164, _, none⟩) NB146_164.out _).trans (((cell_far (p := ⟨gb164, _, none⟩) NB146_164.out _).trans (((cell_far (p := ⟨gb164, _, none⟩) NB146_164.out _).trans (hHeld.2.2.2.2.2.2.1)))))))))))), ((cell_far (p := ⟨gb164, _, none⟩) NB146_164.out _).trans (((cell_far (p := ⟨gb164, _, none⟩) NB146_164.out _).trans (((cell_far (p := ⟨gb164, _, none⟩) NB146_164.out _).trans (((cell_far (p := ⟨gb164, _, none⟩) NB146_164.out _).trans (((cell_far (p := ⟨gb164, _, none⟩) NB146_164.out _).trans (((cell_far (p := ⟨gb164, _, none⟩) NB146_164.out _).trans (hHeld.2.2.2.2.2.2.2.1)))))))))))), ((cell_far (p := ⟨gb164, _, none⟩) NB146_164.out _).trans (((cell_far (p := ⟨gb164, _, none⟩) NB146_164.out _).trans (((cell_far (p := ⟨gb164, _, none⟩) NB146_164.out _).trans (((cell_far (p := ⟨gb164, _, none⟩) NB146_164.out _).trans (((cell_far (p := ⟨gb164, _, none⟩) NB146_164.out _).trans (((cell_far (p := ⟨gb164, _, none⟩) NB146_164.out _).trans (hHeld.2.2.2.2.2.2.2.2.1)))))))))))), ((cell_far (p := ⟨gb164, _, none⟩) NB146_164.out _).trans (((cell_far (p := ⟨gb164, _, none⟩) NB146_164.out _).trans (((cell_far (p := ⟨gb164, _, none⟩) NB146_164.out _).trans (((cell_far (p := ⟨gb164, _, none⟩) NB146_164.out _).trans (((cell_far (p := ⟨gb164, _, none⟩) NB146_164.out _).trans (((cell_far (p := ⟨gb164, _, none⟩) NB146_164.out _).trans (hHeld.2.2.2.2.2.2.2.2.2.1)))))))))))), ((cell_far (p := ⟨gb164, _, none⟩) NB146_164.out _).trans (((cell_far (p := ⟨gb164, _, none⟩) NB146_164.out _).trans (((cell_far (p := ⟨gb164, _, none⟩) NB146_164.out _).trans (((cell_far (p := ⟨gb164, _, none⟩) NB146_164.out _).trans (((cell_far (p := ⟨gb164, _, none⟩) NB146_164.out _).trans (((cell_far (p := ⟨gb164, _, none⟩) NB146_164.out _).trans (hHeld.2.2.2.2.2.2.2.2.2.2.1)))))))))))), ((cell_far (p := ⟨gb164, _, none⟩) NB146_164.out _).trans (((cell_far (p := ⟨gb164, _, none⟩) NB146_164.out _).trans (((cell_far (p := ⟨gb164, _, none⟩) NB146_164.out _).trans (((cell_far (p := ⟨gb164, _, none⟩) NB146_164.out _).trans (((cell_far (p := ⟨gb164, _, none⟩) NB146_164.out _).trans (((cell_far (p := ⟨gb164, _, none⟩) NB146_164.out _).trans (hHeld.2.2.2.2.2.2.2.2.2.2.2.1)))))))))))), ((cell_far (p := ⟨gb164, _, none⟩) NB155_164.out _).trans (((cell_far (p := ⟨gb164, _, none⟩) NB155_164.out _).trans (((cell_far (p := ⟨gb164, _, none⟩) NB155_164.out _).trans (((cell_far (p := ⟨gb164, _, none⟩) NB155_164.out _).trans (((cell_far (p := ⟨gb164, _, none⟩) NB155_164.out _).trans (((cell_far (p := ⟨gb164, _, none⟩) NB155_164.out _).trans (hHeld.2.2.2.2.2.2.2.2.2.2.2.2.1)))))))))))), ((cell_far (p := ⟨gb164, _, none⟩) NB155_164.out _).trans (((cell_far (p := ⟨gb164, _, none⟩) NB155_164.out _).trans (((cell_far (p := ⟨gb164, _, none⟩) NB155_164.out _).trans (((cell_far (p := ⟨gb164, _, none⟩) NB155_164.out _).trans (((cell_far (p := ⟨gb164, _, none⟩) NB155_164.out _).trans (((cell_far (p := ⟨gb164, _, none⟩) NB155_164.out _).trans (hHeld.2.2.2.2.2.2.2.2.2.2.2.2.2.1)))))))))))), ((cell_far (p := ⟨gb164, _, none⟩) NB155_164.out _).trans (((cell_far (p := ⟨gb164, _, none⟩) NB155_164.out _).trans (((cell_far (p := ⟨gb164, _, none⟩) NB155_164.out _).trans (((cell_far (p := ⟨gb164, _, none⟩) NB155_164.out _).trans (((cell_far (p := ⟨gb164, _, none⟩) NB155_164.out _).trans (((cell_far (p := ⟨gb164, _, none⟩) NB155_164.out _).trans (hHeld.2.2.2.2.2.2.2.2.2.2.2.2.2.2.1)))))))))))), ((cell_far (p := ⟨gb164, _, none⟩) NB155_164.out _).trans (((cell_far (p := ⟨gb164, _, none⟩) NB155_164.out _).trans (((cell_far (p := ⟨gb164, _, none⟩) NB155_164.out _).trans (((cell_far (p := ⟨gb164, _, none⟩) NB155_164.out _).trans (((cell_far (p := ⟨gb164, _, none⟩) NB155_164.out _).trans (((cell_far (p := ⟨gb164, _, none⟩) NB155_164.out _).trans (hHeld.2.2.2.2.2.2.2.2.2.2.2.2.2.2.2))))))))))))⟩ (fun hHeld => ?_)
     clear hK K
     refine done_ (done_of HT_.out (by kernel_rfl)) ?_
     have hnb74 := NB145_164.out
     have hnc74 := NB164_145.out
     have hcz75_0 : w67.cell? ⟨gb145, 0, none⟩ = some (.int .i64 a0_0) := (blk_cell BK145.out 0).trans rfl
     have hcz75_1 : w67.cell? ⟨gb145, 1, none⟩ = some (.int .i64 a0_1) := (blk_cell BK145.out 1).trans rfl
     have hcz75_2 : w67.cell? ⟨gb145, 2, none⟩ = some (.int .i64 a0_2) := (blk_cell BK145.out 2).trans rfl
     have hcz75_3 : w67.cell? ⟨gb145, 3, none⟩ = some (.int .i64 a0_3) := (blk_cell BK145.out 3).trans rfl
     have hcz75_4 : w67.cell? ⟨gb145, 4, none⟩ = some (.string a0_4) := (blk_cell BK145.out 4).trans rfl
     have hcz75_5 : w67.cell? ⟨gb145, 5, none⟩ = some (.string a0_5) := (blk_cell BK145.out 5).trans rfl
     have hfz75_0 := blk_frozen BK145.out 0
     have hfz75_1 := blk_frozen BK145.out 1
     have hfz75_2 := blk_frozen BK145.out 2
     have hfz75_3 := blk_frozen BK145.out 3
     have hfz75_4 := blk_frozen BK145.out 4
     have hfz75_5 := blk_frozen BK145.out 5
     go_upto_if 49 with (fail)
     go_cut [] (fun wc => ∃ (kq : Nat) (x165004_46 : ByteArray), Aside0 (weld_both.j1 kq a0_0 a0_1 a0_2 a0_3 a0_4 a0_5 a1_0 a1_1 a1_2 a1_3 a1_4 a1_5 t151 t152 t153 t154 t160 t161 t162 t163 x165004_46 a1_5 = some (r1, r2, r3, r4, r5, r6, r7, r8, r9, r10, r11)) ∧ Aside0 (kq ≤ kj2) ∧ Aside0 (wc.heap[gb145]? = some (.cells #[.int .i64 a0_0, .int .i64 a0_1, .int .i64 a0_2, .int .i64 a0_3, .string a0_4, .string a0_5] 26 (0, 0))) ∧ Aside0 (wc.heap[gb146]? = some (.cells #[.int .i64 a1_0, .int .i64 a1_1, .int .i64 a1_2, .int .i64 a1_3, .string a1_4, .string a1_5] 26 (0, 0))) ∧ Aside0 (wc.heap[gb147]? = some (.cells #[.int .i64 0, .int .i64 0, .int .i64 0, .int .i64 0, .string (⟨#[]⟩ : ByteArray), .string (⟨#[]⟩ : ByteArray)] 26 (0, 0))) ∧ Aside0 (wc.heap[gb148]? = some (.cells #[.int .i64 0, .int .i64 0, .int .i64 0, .int .i64 0] 24 (0, 0))) ∧ Aside0 (wc.heap[gb155]? = some (.cells #[.int .i64 t151, .int .i64 t152, .int .i64 t153, .int .i64 t154] 24 (0, 0))) ∧ Aside0 (wc.heap[gb164]? = some (.cells #[.int .i64 t160, .int .i64 t161, .int .i64 t162, .int .i64 t163, .string x165004_46, .string a1_5] 26 (0, 0))) ∧ Aside0 (Below w.heap.size w wc))
     case first =>
      have H := HC47.out
      clear HC47
      by_cases c76 : a0_0 < 3
      ·rw [if_pos c76] at H
       have c76b0 : decide (a0_0 < 3) = true := decide_eq_true c76
       clear c76
       (first | rw [c76b0] | (simp only [i64_w, i32_w]; rw [c76b0]) | skip)
       by_cases c77 : a0_4.size + a1_4.size ≤ 9223372036854775807
       ·rw [if_pos c77] at H
        have c77b0 := eq_true c77
        have c77b1 : decide (a0_4.size + a1_4.size ≤ 9223372036854775807) = true := decide_eq_true c77
        try have c77b2 : (9223372036854775807 < a0_4.size + a1_4.size) = False := eq_false (Nat.not_lt.2 c77)
        replace H := Option.bind_eq_some_iff.mp H
        obtain ⟨t165, A780, H⟩ := H
        replace H : (weld_both.j1 kj2 a0_0 a0_1 a0_2 a0_3 a0_4 a0_5 a1_0 a1_1 a1_2 a1_3 a1_4 a1_5 t151 t152 t153 t154 t160 t161 t162 t163 t165 a1_5) = some (r1, r2, r3, r4, r5, r6, r7, r8, r9, r10, r11) := H
        have A78 := Aside0.mk A780
        clear A780
        have H' := Aside0.mk H
        clear H
        have hnb79 := NB145_146.out
        have hnc79 := NB146_145.out
        have hnb80 := NB145_147.out
        have hnc80 := NB147_145.out
        have hnb81 := NB145_148.out
        have hnc81 := NB148_145.out
        have hnb82 := NB145_155.out
        have hnc82 := NB155_145.out
        have hnb83 := NB145_164.out
        have hnc83 := NB164_145.out
        have hcz84_0 : w67.cell? ⟨gb145, 0, none⟩ = some (.int .i64 a0_0) := (blk_cell BK145.out 0).trans rfl
        have hcz84_1 : w67.cell? ⟨gb145, 1, none⟩ = some (.int .i64 a0_1) := (blk_cell BK145.out 1).trans rfl
        have hcz84_2 : w67.cell? ⟨gb145, 2, none⟩ = some (.int .i64 a0_2) := (blk_cell BK145.out 2).trans rfl
        have hcz84_3 : w67.cell? ⟨gb145, 3, none⟩ = some (.int .i64 a0_3) := (blk_cell BK145.out 3).trans rfl
        have hcz84_4 : w67.cell? ⟨gb145, 4, none⟩ = some (.string a0_4) := (blk_cell BK145.out 4).trans rfl
        have hcz84_5 : w67.cell? ⟨gb145, 5, none⟩ = some (.string a0_5) := (blk_cell BK145.out 5).trans rfl
        have hfz84_0 := blk_frozen BK145.out 0
        have hfz84_1 := blk_frozen BK145.out 1
        have hfz84_2 := blk_frozen BK145.out 2
        have hfz84_3 := blk_frozen BK145.out 3
        have hfz84_4 := blk_frozen BK145.out 4
        have hfz84_5 := blk_frozen BK145.out 5
        have hnb85 := NB146_147.out
        have hnc85 := NB147_146.out
        have hnb86 := NB146_148.out
        have hnc86 := NB148_146.out
        have hnb87 := NB146_155.out
        have hnc87 := NB155_146.out
        have hnb88 := NB146_164.out
        have hnc88 := NB164_146.out
        have hcz89_0 : w67.cell? ⟨gb146, 0, none⟩ = some (.int .i64 a1_0) := (blk_cell BK146.out 0).trans rfl
        have hcz89_1 : w67.cell? ⟨gb146, 1, none⟩ = some (.int .i64 a1_1) := (blk_cell BK146.out 1).trans rfl
        have hcz89_2 : w67.cell? ⟨gb146, 2, none⟩ = some (.int .i64 a1_2) := (blk_cell BK146.out 2).trans rfl
        have hcz89_3 : w67.cell? ⟨gb146, 3, none⟩ = some (.int .i64 a1_3) := (blk_cell BK146.out 3).trans rfl
        have hcz89_4 : w67.cell? ⟨gb146, 4, none⟩ = some (.string a1_4) := (blk_cell BK146.out 4).trans rfl
        have hcz89_5 : w67.cell? ⟨gb146, 5, none⟩ = some (.string a1_5) := (blk_cell BK146.out 5).trans rfl
        have hfz89_0 := blk_frozen BK146.out 0
        have hfz89_1 := blk_frozen BK146.out 1
        have hfz89_2 := blk_frozen BK146.out 2
        have hfz89_3 := blk_frozen BK146.out 3
        have hfz89_4 := blk_frozen BK146.out 4
        have hfz89_5 := blk_frozen BK146.out 5
        go_wp2_with (first | ((with_reducible refine gate_callee (f := 40) rfl ?_); refine goesL_ (some 55) rfl rfl Tryd.func40 (by kernel_rfl) rfl #[.string (a0_4 ++ a1_4)] rfl (by (try simp only [List.map_toArray, List.map_cons, List.map_nil]); first | done | rfl | (simp only [List.length_drop, List.length_take]; rfl)) ?_; (with_reducible refine (weld_head.calls (a0_4 ++ a1_4) t165 _ A78.out).mono ?_); rintro e w90 ⟨rfl, hb⟩; refine ⟨_, rfl, ?_⟩; have n0_ := Aside0.mk (blk_below (g := gb145) (o := .cells #[.int .i64 a0_0, .int .i64 a0_1, .int .i64 a0_2, .int .i64 a0_3, .string a0_4, .string a0_5] 26 (0, 0)) (by (with_reducible repeat (first | refine blk_drewN ?_ _ | refine blk_drew ?_ | refine blk_alloc ?_ _)); refine blk_far ?_ NB145_164.out _; (with_reducible repeat (first | refine blk_drewN ?_ _ | refine blk_drew ?_ | refine blk_alloc ?_ _)); refine blk_far ?_ NB145_164.out _; (with_reducible repeat (first | refine blk_drewN ?_ _ | refine blk_drew ?_ | refine blk_alloc ?_ _)); refine blk_far ?_ NB145_164.out _; (with_reducible repeat (first | refine blk_drewN ?_ _ | refine blk_drew ?_ | refine blk_alloc ?_ _)); refine blk_far ?_ NB145_164.out _; (with_reducible repeat (first | refine blk_drewN ?_ _ | refine blk_drew ?_ | refine blk_alloc ?_ _)); refine blk_far ?_ NB145_164.out _; (with_reducible repeat (first | refine blk_drewN ?_ _ | refine blk_drew ?_ | refine blk_alloc ?_ _)); refine blk_far ?_ NB145_164.out _; (with_reducible repeat (first | refine blk_drewN ?_ _ | refine blk_drew ?_ | refine blk_alloc ?_ _)); exact BK145.out) hb); have n1_ := Aside0.mk (blk_below (g := gb146) (o := .cells #[.int .i64 a1_0, .int .i64 a1_1, .int .i64 a1_2, .int .i64 a1_3, .string a1_4, .string a1_5] 26 (0, 0)) (by (with_reducible repeat (first | refine blk_drewN ?_ _ | refine blk_drew ?_ | refine blk_alloc ?_ _)); refine blk_far ?_ NB146_164.out _; (with_reducible repeat (first | refine blk_drewN ?_ _ | refine blk_drew ?_ | refine blk_alloc ?_ _)); refine blk_far ?_ NB146_164.out _; (with_reducible repeat (first | refine blk_drewN ?_ _ | refine blk_drew ?_ | refine blk_alloc ?_ _)); refine blk_far ?_ NB146_164.out _; (with_reducible repeat (first | refine blk_drewN ?_ _ | refine blk_drew ?_ | refine blk_alloc ?_ _)); refine blk_far ?_ NB146_164.out _; (with_reducible repeat (first | refine blk_drewN ?_ _ | refine blk_drew ?_ | refine blk_alloc ?_ _)); refine blk_far ?_ NB146_164.out _; (with_reducible repeat (first | refine blk_drewN ?_ _ | refine blk_drew ?_ | refine blk_alloc ?_ _)); refine blk_far ?_ NB146_164.out _; (with_reducible repeat (first | refine blk_drewN ?_ _ | refine blk_drew ?_ | refine blk_alloc ?_ _)); exact BK146.out) hb); have n2_ := Aside0.mk (blk_below (g := gb147) (o := .cells #[.int .i64 0, .int .i64 0, .int .i64 0, .int .i64 0, .string (⟨#[]⟩ : ByteArray), .string (⟨#[]⟩ : ByteArray)] 26 (0, 0)) (by (with_reducible repeat (first | refine blk_drewN ?_ _ | refine blk_drew ?_ | refine blk_alloc ?_ _)); refine blk_far ?_ NB147_164.out _; (with_reducible repeat (first | refine blk_drewN ?_ _ | refine blk_drew ?_ | refine blk_alloc ?_ _)); refine blk_far ?_ NB147_164.out _; (with_reducible repeat (first | refine blk_drewN ?_ _ | refine blk_drew ?_ | refine blk_alloc ?_ _)); refine blk_far ?_ NB147_164.out _; (with_reducible repeat (first | refine blk_drewN ?_ _ | refine blk_drew ?_ | refine blk_alloc ?_ _)); refine blk_far ?_ NB147_164.out _; (with_reducible repeat (first | refine blk_drewN ?_ _ | refine blk_drew ?_ | refine blk_alloc ?_ _)); refine blk_far ?_ NB147_164.out _; (with_reducible repeat (first | refine blk_drewN ?_ _ | refine blk_drew ?_ | refine blk_alloc ?_ _)); refine blk_far ?_ NB147_164.out _; (with_reducible repeat (first | refine blk_drewN ?_ _ | refine blk_drew ?_ | refine blk_alloc ?_ _)); exact BK147.out) hb); have n3_ := Aside0.mk (blk_below (g := gb148) (o := .cells #[.int .i64 0, .int .i64 0, .int .i64 0, .int .i64 0] 24 (0, 0)) (by (with_reducible repeat (first | refine blk_drewN ?_ _ | refine blk_drew ?_ | refine blk_alloc ?_ _)); refine blk_far ?_ NB148_164.out _; (with_reducible repeat (first | refine blk_drewN ?_ _ | refine blk_drew ?_ | refine blk_alloc ?_ _)); refine blk_far ?_ NB148_164.out _; (with_reducible repeat (first | refine blk_drewN ?_ _ | refine blk_drew ?_ | refine blk_alloc ?_ _)); refine blk_far ?_ NB148_164.out _; (with_reducible repeat (first | refine blk_drewN ?_ _ | refine blk_drew ?_ | refine blk_alloc ?_ _)); refine blk_far ?_ NB148_164.out _; (with_reducible repeat (first | refine blk_drewN ?_ _ | refine blk_drew ?_ | refine blk_alloc ?_ _)); refine blk_far ?_ NB148_164.out _; (with_reducible repeat (first | refine blk_drewN ?_ _ | refine blk_drew ?_ | refine blk_alloc ?_ _)); refine blk_far ?_ NB148_164.out _; (with_reducible repeat (first | refine blk_drewN ?_ _ | refine blk_drew ?_ | refine blk_alloc ?_ _)); exact BK148.out) hb); have n4_ := Aside0.mk (blk_below (g := gb155) (o := .cells #[.int .i64 t151, .int .i64 t152, .int .i64 t153, .int .i64 t154] 24 (0, 0)) (by (with_reducible repeat (first | refine blk_drewN ?_ _ | refine blk_drew ?_ | refine blk_alloc ?_ _)); refine blk_far ?_ NB155_164.out _; (with_reducible repeat (first | refine blk_drewN ?_ _ | refine blk_drew ?_ | refine blk_alloc ?_ _)); refine blk_far ?_ NB155_164.out _; (with_reducible repeat (first | refine blk_drewN ?_ _ | refine blk_drew ?_ | refine blk_alloc ?_ _)); refine blk_far ?_ NB155_164.out _; (with_reducible repeat (first | refine blk_drewN ?_ _ | refine blk_drew ?_ | refine blk_alloc ?_ _)); refine blk_far ?_ NB155_164.out _; (with_reducible repeat (first | refine blk_drewN ?_ _ | refine blk_drew ?_ | refine blk_alloc ?_ _)); refine blk_far ?_ NB155_164.out _; (with_reducible repeat (first | refine blk_drewN ?_ _ | refine blk_drew ?_ | refine blk_alloc ?_ _)); refine blk_far ?_ NB155_164.out _; (with_reducible repeat (first | refine blk_drewN ?_ _ | refine blk_drew ?_ | refine blk_alloc ?_ _)); exact BK155.out) hb); have n5_ := Aside0.mk (blk_below (g := gb164) (o := .cells #[.int .i64 t160, .int .i64 t161, .int .i64 t162, .int .i64 t163, .string a0_4, .string a1_5] 26 (0, 0)) (by (with_reducible repeat (first | refine blk_drewN ?_ _ | refine blk_drew ?_ | refine blk_alloc ?_ _)); refine blk_put (cs := #[.int .i64 t160, .int .i64 t161, .int .i64 t162, .int .i64 t163, .string a0_4, .string (⟨#[]⟩ : ByteArray)]) ?_ 5 _ rfl; (with_reducible repeat (first | refine blk_drewN ?_ _ | refine blk_drew ?_ | refine blk_alloc ?_ _)); refine blk_put (cs := #[.int .i64 t160, .int .i64 t161, .int .i64 t162, .int .i64 t163, .string (⟨#[]⟩ : ByteArray), .string (⟨#[]⟩ : ByteArray)]) ?_ 4 _ rfl; (with_reducible repeat (first | refine blk_drewN ?_ _ | refine blk_drew ?_ | refine blk_alloc ?_ _)); refine blk_put (cs := #[.int .i64 t160, .int .i64 t161, .int .i64 t162, .int .i64 0, .string (⟨#[]⟩ : ByteArray), .string (⟨#[]⟩ : ByteArray)]) ?_ 3 _ rfl; (with_reducible repeat (first | refine blk_drewN ?_ _ | refine blk_drew ?_ | refine blk_alloc ?_ _)); refine blk_put (cs := #[.int .i64 t160, .int .i64 t161, .int .i64 0, .int .i64 0, .string (⟨#[]⟩ : ByteArray), .string (⟨#[]⟩ : ByteArray)]) ?_ 2 _ rfl; (with_reducible repeat (first | refine blk_drewN ?_ _ | refine blk_drew ?_ | refine blk_alloc ?_ _)); refine blk_put (cs := #[.int .i64 t160, .int .i64 0, .int .i64 0, .int .i64 0, .string (⟨#[]⟩ : ByteArray), .string (⟨#[]⟩ : ByteArray)]) ?_ 1 _ rfl; (with_reducible repeat (first | refine blk_drewN ?_ _ | refine blk_drew ?_ | refine blk_alloc ?_ _)); refine blk_put (cs := #[.int .i64 0, .int .i64 0, .int .i64 0, .int .i64 0, .string (⟨#[]⟩ : ByteArray), .string (⟨#[]⟩ : ByteArray)]) ?_ 0 _ rfl; (with_reducible repeat (first | refine blk_drewN ?_ _ | refine blk_drew ?_ | refine blk_alloc ?_ _)); exact BK164.out) hb); have n6_ := Aside0.mk (below_step (by repeat (first | (with_reducible first | exact HB.out | apply below_alloc | apply pw_below_drewN | apply below_drew1 | refine below_set ?_ GE145.out | refine below_set ?_ GE146.out | refine below_set ?_ GE147.out | refine below_set ?_ GE148.out | refine below_set ?_ GE155.out | refine below_set ?_ GE164.out) | exact HB.out)) hb); clear BK145; clear BK146; clear BK147; clear BK148; clear BK155; clear BK164; clear HB; have BK145 := n0_; have BK146 := n1_; have BK147 := n2_; have BK148 := n3_; have BK155 := n4_; have BK164 := n5_; have HB := n6_; clear n0_ n1_ n2_ n3_ n4_ n5_ n6_; (try clear hb); (try clear hb2); (try clear hk); (try clear hi); have hnb91 := NB164_147.out; have hnc91 := NB147_164.out; have hnb92 := NB164_148.out; have hnc92 := NB148_164.out; have hnb93 := NB164_155.out; have hnc93 := NB155_164.out; have hcz94_0 : w90.cell? ⟨gb164, 0, none⟩ = some (.int .i64 t160) := (blk_cell BK164.out 0).trans rfl; have hcz94_1 : w90.cell? ⟨gb164, 1, none⟩ = some (.int .i64 t161) := (blk_cell BK164.out 1).trans rfl; have hcz94_2 : w90.cell? ⟨gb164, 2, none⟩ = some (.int .i64 t162) := (blk_cell BK164.out 2).trans rfl; have hcz94_3 : w90.cell? ⟨gb164, 3, none⟩ = some (.int .i64 t163) := (blk_cell BK164.out 3).trans rfl; have hcz94_4 : w90.cell? ⟨gb164, 4, none⟩ = some (.string a0_4) := (blk_cell BK164.out 4).trans rfl; have hcz94_5 : w90.cell? ⟨gb164, 5, none⟩ = some (.string a1_5) := (blk_cell BK164.out 5).trans rfl; have hfz94_0 := blk_frozen BK164.out 0; have hfz94_1 := blk_frozen BK164.out 1; have hfz94_2 := blk_frozen BK164.out 2; have hfz94_3 := blk_frozen BK164.out 3; have hfz94_4 := blk_frozen BK164.out 4; have hfz94_5 := blk_frozen BK164.out 5))
        go_meet
        case rel => exact ⟨_, (t165), H', ⟨by have := HJ2.out; first | omega | exact Nat.le_refl _⟩, ⟨by (with_reducible repeat (first | refine blk_drewN ?_ _ | refine blk_drew ?_ | refine blk_alloc ?_ _)); refine blk_far ?_ NB145_164.out _; (with_reducible repeat (first | refine blk_drewN ?_ _ | refine blk_drew ?_ | refine blk_alloc ?_ _)); exact BK145.out⟩, ⟨by (with_reducible repeat (first | refine blk_drewN ?_ _ | refine blk_drew ?_ | refine blk_alloc ?_ _)); refine blk_far ?_ NB146_164.out _; (with_reducible repeat (first | refine blk_drewN ?_ _ | refine blk_drew ?_ | refine blk_alloc ?_ _)); exact BK146.out⟩, ⟨by (with_reducible repeat (first | refine blk_drewN ?_ _ | refine blk_drew ?_ | refine blk_alloc ?_ _)); refine blk_far ?_ NB147_164.out _; (with_reducible repeat (first | refine blk_drewN ?_ _ | refine blk_drew ?_ | refine blk_alloc ?_ _)); exact BK147.out⟩, ⟨by (with_reducible repeat (first | refine blk_drewN ?_ _ | refine blk_drew ?_ | refine blk_alloc ?_ _)); refine blk_far ?_ NB148_164.out _; (with_reducible repeat (first | refine blk_drewN ?_ _ | refine blk_drew ?_ | refine blk_alloc ?_ _)); exact BK148.out⟩, ⟨by (with_reducible repeat (first | refine blk_drewN ?_ _ | refine blk_drew ?_ | refine blk_alloc ?_ _)); refine blk_far ?_ NB155_164.out _; (with_reducible repeat (first | refine blk_drewN ?_ _ | refine blk_drew ?_ | refine blk_alloc ?_ _)); exact BK155.out⟩, ⟨by (with_reducible repeat (first | refine blk_drewN ?_ _ | refine blk_drew ?_ | refine blk_alloc ?_ _)); refine blk_put (cs := #[.int .i64 t160, .int .i64 t161, .int .i64 t162, .int .i64 t163, .string a0_4, .string a1_5]) ?_ 4 _ rfl; (with_reducible repeat (first | refine blk_drewN ?_ _ | refine blk_drew ?_ | refine blk_alloc ?_ _)); exact BK164.out⟩, ⟨by repeat (first | (with_reducible first | exact HB.out | apply below_alloc | apply pw_below_drewN | apply below_drew1 | refine below_set ?_ GE145.out | refine below_set ?_ GE146.out | refine below_set ?_ GE147.out | refine below_set ?_ GE148.out | refine below_set ?_ GE155.out | refine below_set ?_ GE164.out) | exact HB.out)⟩⟩
       ·rw [if_neg c77] at H
        exact absurd H (by simp)
      ·rw [if_neg c76] at H
       have c76b0 : decide (a0_0 < 3) = false := decide_eq_false c76
       clear c76
       (first | rw [c76b0] | (simp only [i64_w, i32_w]; rw [c76b0]) | skip)
       have H' := Aside0.mk H
       clear H
       go_wp2
       go_meet
       case rel => exact ⟨_, (a0_4), H', ⟨by have := HJ2.out; first | omega | exact Nat.le_refl _⟩, ⟨by (with_reducible repeat (first | refine blk_drewN ?_ _ | refine blk_drew ?_ | refine blk_alloc ?_ _)); refine blk_far ?_ NB145_164.out _; (with_reducible repeat (first | refine blk_drewN ?_ _ | refine blk_drew ?_ | refine blk_alloc ?_ _)); refine blk_far ?_ NB145_164.out _; (with_reducible repeat (first | refine blk_drewN ?_ _ | refine blk_drew ?_ | refine blk_alloc ?_ _)); refine blk_far ?_ NB145_164.out _; (with_reducible repeat (first | refine blk_drewN ?_ _ | refine blk_drew ?_ | refine blk_alloc ?_ _)); refine blk_far ?_ NB145_164.out _; (with_reducible repeat (first | refine blk_drewN ?_ _ | refine blk_drew ?_ | refine blk_alloc ?_ _)); refine blk_far ?_ NB145_164.out _; (with_reducible repeat (first | refine blk_drewN ?_ _ | refine blk_drew ?_ | refine blk_alloc ?_ _)); refine blk_far ?_ NB145_164.out _; (with_reducible repeat (first | refine blk_drewN ?_ _ | refine blk_drew ?_ | refine blk_alloc ?_ _)); exact BK145.out⟩, ⟨by (with_reducible repeat (first | refine blk_drewN ?_ _ | refine blk_drew ?_ | refine blk_alloc ?_ _)); refine blk_far ?_ NB146_164.out _; (with_reducible repeat (first | refine blk_drewN ?_ _ | refine blk_drew ?_ | refine blk_alloc ?_ _)); refine blk_far ?_ NB146_164.out _; (with_reducible repeat (first | refine blk_drewN ?_ _ | refine blk_drew ?_ | refine blk_alloc ?_ _)); refine blk_far ?_ NB146_164.out _; (with_reducible repeat (first | refine blk_drewN ?_ _ | refine blk_drew ?_ | refine blk_alloc ?_ _)); refine blk_far ?_ NB146_164.out _; (with_reducible repeat (first | refine blk_drewN ?_ _ | refine blk_drew ?_ | refine blk_alloc ?_ _)); refine blk_far ?_ NB146_164.out _; (with_reducible repeat (first | refine blk_drewN ?_ _ | refine blk_drew ?_ | refine blk_alloc ?_ _)); refine blk_far ?_ NB146_164.out _; (with_reducible repeat (first | refine blk_drewN ?_ _ | refine blk_drew ?_ | refine blk_alloc ?_ _)); exact BK146.out⟩, ⟨by (with_reducible repeat (first | refine blk_drewN ?_ _ | refine blk_drew ?_ | refine blk_alloc ?_ _)); refine blk_far ?_ NB147_164.out _; (with_reducible repeat (first | refine blk_drewN ?_ _ | refine blk_drew ?_ | refine blk_alloc ?_ _)); refine blk_far ?_ NB147_164.out _; (with_reducible repeat (first | refine blk_drewN ?_ _ | refine blk_drew ?_ | refine blk_alloc ?_ _)); refine blk_far ?_ NB147_164.out _; (with_reducible repeat (first | refine blk_drewN ?_ _ | refine blk_drew ?_ | refine blk_alloc ?_ _)); refine blk_far ?_ NB147_164.out _; (with_reducible repeat (first | refine blk_drewN ?_ _ | refine blk_drew ?_ | refine blk_alloc ?_ _)); refine blk_far ?_ NB147_164.out _; (with_reducible repeat (first | refine blk_drewN ?_ _ | refine blk_drew ?_ | refine blk_alloc ?_ _)); refine blk_far ?_ NB147_164.out _; (with_reducible repeat (first | refine blk_drewN ?_ _ | refine blk_drew ?_ | refine blk_alloc ?_ _)); exact BK147.out⟩, ⟨by (with_reducible repeat (first | refine blk_drewN ?_ _ | refine blk_drew ?_ | refine blk_alloc ?_ _)); refine blk_far ?_ NB148_164.out _; (with_reducible repeat (first | refine blk_drewN ?_ _ | refine blk_drew ?_ | refine blk_alloc ?_ _)); refine blk_far ?_ NB148_164.out _; (with_reducible repeat (first | refine blk_drewN ?_ _ | refine blk_drew ?_ | refine blk_alloc ?_ _)); refine blk_far ?_ NB148_164.out _; (with_reducible repeat (first | refine blk_drewN ?_ _ | refine blk_drew ?_ | refine blk_alloc ?_ _)); refine blk_far ?_ NB148_164.out _; (with_reducible repeat (first | refine blk_drewN ?_ _ | refine blk_drew ?_ | refine blk_alloc ?_ _)); refine blk_far ?_ NB148_164.out _; (with_reducible repeat (first | refine blk_drewN ?_ _ | refine blk_drew ?_ | refine blk_alloc ?_ _)); refine blk_far ?_ NB148_164.out _; (with_reducible repeat (first | refine blk_drewN ?_ _ | refine blk_drew ?_ | refine blk_alloc ?_ _)); exact BK148.out⟩, ⟨by (with_reducible repeat (first | refine blk_drewN ?_ _ | refine blk_drew ?_ | refine blk_alloc ?_ _)); refine blk_far ?_ NB155_164.out _; (with_reducible repeat (first | refine blk_drewN ?_ _ | refine blk_drew ?_ | refine blk_alloc ?_ _)); refine blk_far ?_ NB155_164.out _; (with_reducible repeat (first | refine blk_drewN ?_ _ | refine blk_drew ?_ | refine blk_alloc ?_ _)); refine blk_far ?_ NB155_164.out _; (with_reducible repeat (first | refine blk_drewN ?_ _ | refine blk_drew ?_ | refine blk_alloc ?_ _)); refine blk_far ?_ NB155_164.out _; (with_reducible repeat (first | refine blk_drewN ?_ _ | refine blk_drew ?_ | refine blk_alloc ?_ _)); refine blk_far ?_ NB155_164.out _; (with_reducible repeat (first | refine blk_drewN ?_ _ | refine blk_drew ?_ | refine blk_alloc ?_ _)); refine blk_far ?_ NB155_164.out _; (with_reducible repeat (first | refine blk_drewN ?_ _ | refine blk_drew ?_ | refine blk_alloc ?_ _)); exact BK155.out⟩, ⟨by (with_reducible repeat (first | refine blk_drewN ?_ _ | refine blk_drew ?_ | refine blk_alloc ?_ _)); refine blk_put (cs := #[.int .i64 t160, .int .i64 t161, .int .i64 t162, .int .i64 t163, .string a0_4, .string (⟨#[]⟩ : ByteArray)]) ?_ 5 _ rfl; (with_reducible repeat (first | refine blk_drewN ?_ _ | refine blk_drew ?_ | refine blk_alloc ?_ _)); refine blk_put (cs := #[.int .i64 t160, .int .i64 t161, .int .i64 t162, .int .i64 t163, .string (⟨#[]⟩ : ByteArray), .string (⟨#[]⟩ : ByteArray)]) ?_ 4 _ rfl; (with_reducible repeat (first | refine blk_drewN ?_ _ | refine blk_drew ?_ | refine blk_alloc ?_ _)); refine blk_put (cs := #[.int .i64 t160, .int .i64 t161, .int .i64 t162, .int .i64 0, .string (⟨#[]⟩ : ByteArray), .string (⟨#[]⟩ : ByteArray)]) ?_ 3 _ rfl; (with_reducible repeat (first | refine blk_drewN ?_ _ | refine blk_drew ?_ | refine blk_alloc ?_ _)); refine blk_put (cs := #[.int .i64 t160, .int .i64 t161, .int .i64 0, .int .i64 0, .string (⟨#[]⟩ : ByteArray), .string (⟨#[]⟩ : ByteArray)]) ?_ 2 _ rfl; (with_reducible repeat (first | refine blk_drewN ?_ _ | refine blk_drew ?_ | refine blk_alloc ?_ _)); refine blk_put (cs := #[.int .i64 t160, .int .i64 0, .int .i64 0, .int .i64 0, .string (⟨#[]⟩ : ByteArray), .string (⟨#[]⟩ : ByteArray)]) ?_ 1 _ rfl; (with_reducible repeat (first | refine blk_drewN ?_ _ | refine blk_drew ?_ | refine blk_alloc ?_ _)); refine blk_put (cs := #[.int .i64 0, .int .i64 0, .int .i64 0, .int .i64 0, .string (⟨#[]⟩ : ByteArray), .string (⟨#[]⟩ : ByteArray)]) ?_ 0 _ rfl; (with_reducible repeat (first | refine blk_drewN ?_ _ | refine blk_drew ?_ | refine blk_alloc ?_ _)); exact BK164.out⟩, ⟨by repeat (first | (with_reducible first | exact HB.out | apply below_alloc | apply pw_below_drewN | apply below_drew1 | refine below_set ?_ GE145.out | refine below_set ?_ GE146.out | refine below_set ?_ GE147.out | refine below_set ?_ GE148.out | refine below_set ?_ GE155.out | refine below_set ?_ GE164.out) | exact HB.out)⟩⟩
     case rest =>
      clear HC47
      try clear p2
      try clear c3
      try clear c4
      try clear c7
      try clear c8
      try clear c9
      try clear c39
      try clear c40
      try clear c74
      try clear c76
      try clear c76b0
      try clear c77
      try clear c77b0
      try clear c77b1
      try clear c77b2
      try clear c79
      try clear c80
      try clear c81
      try clear c82
      try clear c83
      try clear c85
      try clear c86
      try clear c87
      try clear c88
      try clear c91
      try clear c92
      try clear c93
      try clear hcz75_0
      try clear hcz75_1
      try clear hcz75_2
      try clear hcz75_3
      try clear hcz75_4
      try clear hcz75_5
      try clear hcz84_0
      try clear hcz84_1
      try clear hcz84_2
      try clear hcz84_3
      try clear hcz84_4
      try clear hcz84_5
      try clear hcz89_0
      try clear hcz89_1
      try clear hcz89_2
      try clear hcz89_3
      try clear hcz89_4
      try clear hcz89_5
      try clear hcz94_0
      try clear hcz94_1
      try clear hcz94_2
      try clear hcz94_3
      try clear hcz94_4
      try clear hcz94_5
      try clear hfz75_0
      try clear hfz75_1
      try clear hfz75_2
      try clear hfz75_3
      try clear hfz75_4
      try clear hfz75_5
      try clear hfz84_0
      try clear hfz84_1
      try clear hfz84_2
      try clear hfz84_3
      try clear hfz84_4
      try clear hfz84_5
      try clear hfz89_0
      try clear hfz89_1
      try clear hfz89_2
      try clear hfz89_3
      try clear hfz89_4
      try clear hfz89_5
      try clear hfz94_0
      try clear hfz94_1
      try clear hfz94_2
      try clear hfz94_3
      try clear hfz94_4
      try clear hfz94_5
      obtain ⟨kq, x165004_46, HA, HJ46, BK145, BK146, BK147, BK148, BK155, BK164, HB⟩ := hcut
      cases kq with
      | zero => exact absurd HA.out (by simp [weld_both.j1])
      | succ kj46 =>
       have H := HA.out
       clear HA
       simp only [weld_both.j1] at H
       by_cases c95 : a1_0 < 3
       ·rw [if_pos c95] at H
        have c95b0 : decide (a1_0 < 3) = true := decide_eq_true c95
        clear c95
        by_cases c96 : a0_5.size + a1_5.size ≤ 9223372036854775807
        ·rw [if_pos c96] at H
         have c96b0 := eq_true c96
         have c96b1 : decide (a0_5.size + a1_5.size ≤ 9223372036854775807) = true := decide_eq_true c96
         try have c96b2 : (9223372036854775807 < a0_5.size + a1_5.size) = False := eq_false (Nat.not_lt.2 c96)
         replace H := Option.bind_eq_some_iff.mp H
         obtain ⟨t166, A970, H⟩ := H
         replace H : ((weld_Valid.f kj46 t160 t161 t162 t163 x165004_46 t166).bind fun t167 => (if t167 = true then (some (t160, t161, t162, t163, x165004_46, t166, t151, t152, t153, t154, 0)) else (some (0, 0, 0, 0, (⟨#[]⟩ : ByteArray), (⟨#[]⟩ : ByteArray), 0, 0, 0, 0, 50)))) = some (r1, r2, r3, r4, r5, r6, r7, r8, r9, r10, r11) := H
         have A97 := Aside0.mk A970
         clear A970
         replace H := Option.bind_eq_some_iff.mp H
         obtain ⟨t167, A980, H⟩ := H
         replace H : (if t167 = true then (some (t160, t161, t162, t163, x165004_46, t166, t151, t152, t153, t154, 0)) else (some (0, 0, 0, 0, (⟨#[]⟩ : ByteArray), (⟨#[]⟩ : ByteArray), 0, 0, 0, 0, 50))) = some (r1, r2, r3, r4, r5, r6, r7, r8, r9, r10, r11) := H
         have A98 := Aside0.mk A980
         clear A980
         by_cases c99 : t167 = true
         ·subst c99
          have H1 : (some (t160, t161, t162, t163, x165004_46, t166, t151, t152, t153, t154, 0)) = some (r1, r2, r3, r4, r5, r6, r7, r8, r9, r10, r11) := by rw [if_pos rfl] at H; exact H
          clear H
          have H := H1
          clear H1
          simp only [Option.some.injEq, Prod.mk.injEq] at H
          obtain ⟨rfl, rfl, rfl, rfl, rfl, rfl, rfl, rfl, rfl, rfl, rfl⟩ := H
          have hnb100 := NB146_145.out
          have hnc100 := NB145_146.out
          have hnb101 := NB146_147.out
          have hnc101 := NB147_146.out
          have hnb102 := NB146_148.out
          have hnc102 := NB148_146.out
          have hnb103 := NB146_155.out
          have hnc103 := NB155_146.out
          have hnb104 := NB146_164.out
          have hnc104 := NB164_146.out
          have hcz105_0 : wc.cell? ⟨gb146, 0, none⟩ = some (.int .i64 a1_0) := (blk_cell BK146.out 0).trans rfl
          have hcz105_1 : wc.cell? ⟨gb146, 1, none⟩ = some (.int .i64 a1_1) := (blk_cell BK146.out 1).trans rfl
          have hcz105_2 : wc.cell? ⟨gb146, 2, none⟩ = some (.int .i64 a1_2) := (blk_cell BK146.out 2).trans rfl
          have hcz105_3 : wc.cell? ⟨gb146, 3, none⟩ = some (.int .i64 a1_3) := (blk_cell BK146.out 3).trans rfl
          have hcz105_4 : wc.cell? ⟨gb146, 4, none⟩ = some (.string a1_4) := (blk_cell BK146.out 4).trans rfl
          have hcz105_5 : wc.cell? ⟨gb146, 5, none⟩ = some (.string a1_5) := (blk_cell BK146.out 5).trans rfl
          have hfz105_0 := blk_frozen BK146.out 0
          have hfz105_1 := blk_frozen BK146.out 1
          have hfz105_2 := blk_frozen BK146.out 2
          have hfz105_3 := blk_frozen BK146.out 3
          have hfz105_4 := blk_frozen BK146.out 4
          have hfz105_5 := blk_frozen BK146.out 5
          have hnb106 := NB145_147.out
          have hnc106 := NB147_145.out
          have hnb107 := NB145_148.out
          have hnc107 := NB148_145.out
          have hnb108 := NB145_155.out
          have hnc108 := NB155_145.out
          have hnb109 := NB145_164.out
          have hnc109 := NB164_145.out
          have hcz110_0 : wc.cell? ⟨gb145, 0, none⟩ = some (.int .i64 a0_0) := (blk_cell BK145.out 0).trans rfl
          have hcz110_1 : wc.cell? ⟨gb145, 1, none⟩ = some (.int .i64 a0_1) := (blk_cell BK145.out 1).trans rfl
          have hcz110_2 : wc.cell? ⟨gb145, 2, none⟩ = some (.int .i64 a0_2) := (blk_cell BK145.out 2).trans rfl
          have hcz110_3 : wc.cell? ⟨gb145, 3, none⟩ = some (.int .i64 a0_3) := (blk_cell BK145.out 3).trans rfl
          have hcz110_4 : wc.cell? ⟨gb145, 4, none⟩ = some (.string a0_4) := (blk_cell BK145.out 4).trans rfl
          have hcz110_5 : wc.cell? ⟨gb145, 5, none⟩ = some (.string a0_5) := (blk_cell BK145.out 5).trans rfl
          have hfz110_0 := blk_frozen BK145.out 0
          have hfz110_1 := blk_frozen BK145.out 1
          have hfz110_2 := blk_frozen BK145.out 2
          have hfz110_3 := blk_frozen BK145.out 3
          have hfz110_4 := blk_frozen BK145.out 4
          have hfz110_5 := blk_frozen BK145.out 5
          try go_wp2_with (first | ((with_reducible refine gate_callee (f := 41) rfl ?_); refine goesL_ (some 66) rfl rfl Tryd.func41 (by kernel_rfl) rfl #[.string (a0_5 ++ a1_5)] rfl (by (try simp only [List.map_toArray, List.map_cons, List.map_nil]); first | done | rfl | (simp only [List.length_drop, List.length_take]; rfl)) ?_; (with_reducible refine (weld_tail.calls (a0_5 ++ a1_5) t166 _ A97.out).mono ?_); rintro e w111 ⟨rfl, hb⟩; refine ⟨_, rfl, ?_⟩; have n0_ := Aside0.mk (blk_below (g := gb145) (o := .cells #[.int .i64 a0_0, .int .i64 a0_1, .int .i64 a0_2, .int .i64 a0_3, .string a0_4, .string a0_5] 26 (0, 0)) (by (with_reducible repeat (first | refine blk_drewN ?_ _ | refine blk_drew ?_ | refine blk_alloc ?_ _)); exact BK145.out) hb); have n1_ := Aside0.mk (blk_below (g := gb146) (o := .cells #[.int .i64 a1_0, .int .i64 a1_1, .int .i64 a1_2, .int .i64 a1_3, .string a1_4, .string a1_5] 26 (0, 0)) (by (with_reducible repeat (first | refine blk_drewN ?_ _ | refine blk_drew ?_ | refine blk_alloc ?_ _)); exact BK146.out) hb); have n2_ := Aside0.mk (blk_below (g := gb147) (o := .cells #[.int .i64 0, .int .i64 0, .int .i64 0, .int .i64 0, .string (⟨#[]⟩ : ByteArray), .string (⟨#[]⟩ : ByteArray)] 26 (0, 0)) (by (with_reducible repeat (first | refine blk_drewN ?_ _ | refine blk_drew ?_ | refine blk_alloc ?_ _)); exact BK147.out) hb); have n3_ := Aside0.mk (blk_below (g := gb148) (o := .cells #[.int .i64 0, .int .i64 0, .int .i64 0, .int .i64 0] 24 (0, 0)) (by (with_reducible repeat (first | refine blk_drewN ?_ _ | refine blk_drew ?_ | refine blk_alloc ?_ _)); exact BK148.out) hb); have n4_ := Aside0.mk (blk_below (g := gb155) (o := .cells #[.int .i64 t151, .int .i64 t152, .int .i64 t153, .int .i64 t154] 24 (0, 0)) (by (with_reducible repeat (first | refine blk_drewN ?_ _ | refine blk_drew ?_ | refine blk_alloc ?_ _)); exact BK155.out) hb); have n5_ := Aside0.mk (blk_below (g := gb164) (o := .cells #[.int .i64 t160, .int .i64 t161, .int .i64 t162, .int .i64 t163, .string x165004_46, .string a1_5] 26 (0, 0)) (by (with_reducible repeat (first | refine blk_drewN ?_ _ | refine blk_drew ?_ | refine blk_alloc ?_ _)); exact BK164.out) hb); have n6_ := Aside0.mk (below_step (by repeat (first | (with_reducible first | exact HB.out | apply below_alloc | apply pw_below_drewN | apply below_drew1 | refine below_set ?_ GE145.out | refine below_set ?_ GE146.out | refine below_set ?_ GE147.out | refine below_set ?_ GE148.out | refine below_set ?_ GE155.out | refine below_set ?_ GE164.out) | exact HB.out)) hb); clear BK145; clear BK146; clear BK147; clear BK148; clear BK155; clear BK164; clear HB; have BK145 := n0_; have BK146 := n1_; have BK147 := n2_; have BK148 := n3_; have BK155 := n4_; have BK164 := n5_; have HB := n6_; clear n0_ n1_ n2_ n3_ n4_ n5_ n6_; (try clear hb); (try clear hb2); (try clear hk); (try clear hi); have hnb112 := NB164_147.out; have hnc112 := NB147_164.out; have hnb113 := NB164_148.out; have hnc113 := NB148_164.out; have hnb114 := NB164_155.out; have hnc114 := NB155_164.out; have hcz115_0 : w111.cell? ⟨gb164, 0, none⟩ = some (.int .i64 t160) := (blk_cell BK164.out 0).trans rfl; have hcz115_1 : w111.cell? ⟨gb164, 1, none⟩ = some (.int .i64 t161) := (blk_cell BK164.out 1).trans rfl; have hcz115_2 : w111.cell? ⟨gb164, 2, none⟩ = some (.int .i64 t162) := (blk_cell BK164.out 2).trans rfl; have hcz115_3 : w111.cell? ⟨gb164, 3, none⟩ = some (.int .i64 t163) := (blk_cell BK164.out 3).trans rfl; have hcz115_4 : w111.cell? ⟨gb164, 4, none⟩ = some (.string x165004_46) := (blk_cell BK164.out 4).trans rfl; have hcz115_5 : w111.cell? ⟨gb164, 5, none⟩ = some (.string a1_5) := (blk_cell BK164.out 5).trans rfl; have hfz115_0 := blk_frozen BK164.out 0; have hfz115_1 := blk_frozen BK164.out 1; have hfz115_2 := blk_frozen BK164.out 2; have hfz115_3 := blk_frozen BK164.out 3; have hfz115_4 := blk_frozen BK164.out 4; have hfz115_5 := blk_frozen BK164.out 5) | ((with_reducible refine gate_callee (f := 11) rfl ?_); refine goesL_ (some 69) rfl rfl Tryd.func11 (by kernel_rfl) rfl #[.agg #[.int .i64 t160, .int .i64 t161, .int .i64 t162, .int .i64 t163, .string x165004_46, .string t166]] rfl (by (try simp only [List.map_toArray, List.map_cons, List.map_nil]); first | done | rfl | (simp only [List.length_drop, List.length_take]; rfl)) ?_; (with_reducible refine (weld_Valid.calls kj46 t160 t161 t162 t163 x165004_46 t166 true _ ?side1 A98.out).mono ?_); (case side1 => first | (with_reducible exact HG.out) | exact Glob.Globs_below HG.out (by repeat (first | (with_reducible first | exact HB.out | apply below_alloc | apply pw_below_drewN | apply below_drew1 | refine below_set ?_ GE145.out | refine below_set ?_ GE146.out | refine below_set ?_ GE147.out | refine below_set ?_ GE148.out | refine below_set ?_ GE155.out | refine below_set ?_ GE164.out) | exact HB.out))); rintro e w116 ⟨rfl, hb⟩; refine ⟨_, rfl, ?_⟩; have n0_ := Aside0.mk (blk_below (g := gb145) (o := .cells #[.int .i64 a0_0, .int .i64 a0_1, .int .i64 a0_2, .int .i64 a0_3, .string a0_4, .string a0_5] 26 (0, 0)) (by (with_reducible repeat (first | refine blk_drewN ?_ _ | refine blk_drew ?_ | refine blk_alloc ?_ _)); refine blk_far ?_ NB145_164.out _; (with_reducible repeat (first | refine blk_drewN ?_ _ | refine blk_drew ?_ | refine blk_alloc ?_ _)); exact BK145.out) hb); have n1_ := Aside0.mk (blk_below (g := gb146) (o := .cells #[.int .i64 a1_0, .int .i64 a1_1, .int .i64 a1_2, .int .i64 a1_3, .string a1_4, .string a1_5] 26 (0, 0)) (by (with_reducible repeat (first | refine blk_drewN ?_ _ | refine blk_drew ?_ | refine blk_alloc ?_ _)); refine blk_far ?_ NB146_164.out _; (with_reducible repeat (first | refine blk_drewN ?_ _ | refine blk_drew ?_ | refine blk_alloc ?_ _)); exact BK146.out) hb); have n2_ := Aside0.mk (blk_below (g := gb147) (o := .cells #[.int .i64 0, .int .i64 0, .int .i64 0, .int .i64 0, .string (⟨#[]⟩ : ByteArray), .string (⟨#[]⟩ : ByteArray)] 26 (0, 0)) (by (with_reducible repeat (first | refine blk_drewN ?_ _ | refine blk_drew ?_ | refine blk_alloc ?_ _)); refine blk_far ?_ NB147_164.out _; (with_reducible repeat (first | refine blk_drewN ?_ _ | refine blk_drew ?_ | refine blk_alloc ?_ _)); exact BK147.out) hb); have n3_ := Aside0.mk (blk_below (g := gb148) (o := .cells #[.int .i64 0, .int .i64 0, .int .i64 0, .int .i64 0] 24 (0, 0)) (by (with_reducible repeat (first | refine blk_drewN ?_ _ | refine blk_drew ?_ | refine blk_alloc ?_ _)); refine blk_far ?_ NB148_164.out _; (with_reducible repeat (first | refine blk_drewN ?_ _ | refine blk_drew ?_ | refine blk_alloc ?_ _)); exact BK148.out) hb); have n4_ := Aside0.mk (blk_below (g := gb155) (o := .cells #[.int .i64 t151, .int .i64 t152, .int .i64 t153, .int .i64 t154] 24 (0, 0)) (by (with_reducible repeat (first | refine blk_drewN ?_ _ | refine blk_drew ?_ | refine blk_alloc ?_ _)); refine blk_far ?_ NB155_164.out _; (with_reducible repeat (first | refine blk_drewN ?_ _ | refine blk_drew ?_ | refine blk_alloc ?_ _)); exact BK155.out) hb); have n5_ := Aside0.mk (blk_below (g := gb164) (o := .cells #[.int .i64 t160, .int .i64 t161, .int .i64 t162, .int .i64 t163, .string x165004_46, .string t166] 26 (0, 0)) (by (with_reducible repeat (first | refine blk_drewN ?_ _ | refine blk_drew ?_ | refine blk_alloc ?_ _)); refine blk_put (cs := #[.int .i64 t160, .int .i64 t161, .int .i64 t162, .int .i64 t163, .string x165004_46, .string a1_5]) ?_ 5 _ rfl; (with_reducible repeat (first | refine blk_drewN ?_ _ | refine blk_drew ?_ | refine blk_alloc ?_ _)); exact BK164.out) hb); have n6_ := Aside0.mk (below_step (by repeat (first | (with_reducible first | exact HB.out | apply below_alloc | apply pw_below_drewN | apply below_drew1 | refine below_set ?_ GE145.out | refine below_set ?_ GE146.out | refine below_set ?_ GE147.out | refine below_set ?_ GE148.out | refine below_set ?_ GE155.out | refine below_set ?_ GE164.out) | exact HB.out)) hb); clear BK145; clear BK146; clear BK147; clear BK148; clear BK155; clear BK164; clear HB; have BK145 := n0_; have BK146 := n1_; have BK147 := n2_; have BK148 := n3_; have BK155 := n4_; have BK164 := n5_; have HB := n6_; clear n0_ n1_ n2_ n3_ n4_ n5_ n6_; (try clear hb); (try clear hb2); (try clear hk); (try clear hi)))
          have n0_ := Aside0.mk (blk_drew BK145.out)
          have n1_ := Aside0.mk (blk_drew BK146.out)
          have n2_ := Aside0.mk (blk_drew BK147.out)
          have n3_ := Aside0.mk (blk_drew BK148.out)
          have n4_ := Aside0.mk (blk_drew BK155.out)
          have n5_ := Aside0.mk (blk_drew BK164.out)
          have n6_ := Aside0.mk (below_drew1 HB.out)
          clear BK145
          clear BK146
          clear BK147
          clear BK148
          clear BK155
          clear BK164
          clear HB
          have BK145 := n0_
          have BK146 := n1_
          have BK147 := n2_
          have BK148 := n3_
          have BK155 := n4_
          have BK164 := n5_
          have HB := n6_
          clear n0_ n1_ n2_ n3_ n4_ n5_ n6_
          refine start_ (n := 5) (S := fun w' => w'.cell? ⟨gb164, 0, none⟩ = some (.int .i64 t160) ∧ w'.cell? ⟨gb164, 1, none⟩ = some (.int .i64 t161) ∧ w'.cell? ⟨gb164, 2, none⟩ = some (.int .i64 t162) ∧ w'.cell? ⟨gb164, 3, none⟩ = some (.int .i64 t163) ∧ w'.cell? ⟨gb164, 4, none⟩ = some (.string x165004_46) ∧ w'.cell? ⟨gb164, 5, none⟩ = some (.string t166) ∧ w'.cell? ⟨gb155, 0, none⟩ = some (.int .i64 t151) ∧ w'.cell? ⟨gb155, 1, none⟩ = some (.int .i64 t152) ∧ w'.cell? ⟨gb155, 2, none⟩ = some (.int .i64 t153) ∧ w'.cell? ⟨gb155, 3, none⟩ = some (.int .i64 t154)) (ds := []) #[false, false, false, false, false] (by kernel_rfl) rfl rfl ⟨(blk_cell BK164.out 0).trans rfl, (blk_cell BK164.out 1).trans rfl, (blk_cell BK164.out 2).trans rfl, (blk_cell BK164.out 3).trans rfl, (blk_cell BK164.out 4).trans rfl, (blk_cell BK164.out 5).trans rfl, (blk_cell BK155.out 0).trans rfl, (blk_cell BK155.out 1).trans rfl, (blk_cell BK155.out 2).trans rfl, (blk_cell BK155.out 3).trans rfl⟩ (fun hHeld => ?_)
          generalize w116.drew = w117 at BK145 BK146 BK147 BK148 BK155 BK164 HB hHeld ⊢
          refine take_ (i := 0) (N := some 73) (v := ?_) (a' := ?_) #[true, false, false, false, false] rfl rfl (by kernel_rfl) (fun _ _ _ h => h) (Or.inl ⟨by rfl, ?_⟩) hHeld ?_ ?_
          rotate_left
          ·rintro w' ⟨s0, s1, s2, s3, s4, s5, s6, s7, s8, s9⟩
           go_simp
           with_reducible rfl
          rotate_left
          ·simp only [Act.put, List.setIfInBounds_toArray, List.set_cons_zero, List.set_cons_succ, i64_w, i32_w]
           rfl
          refine take_ (i := 1) (N := some 74) (v := ?_) (a' := ?_) #[true, true, false, false, false] rfl rfl (by kernel_rfl) (fun _ _ _ h => h) (Or.inl ⟨by rfl, ?_⟩) hHeld ?_ ?_
          rotate_left
          ·rintro w' ⟨s0, s1, s2, s3, s4, s5, s6, s7, s8, s9⟩
           go_simp
           with_reducible rfl
          rotate_left
          ·simp only [Act.put, List.setIfInBounds_toArray, List.set_cons_zero, List.set_cons_succ, i64_w, i32_w]
           rfl
          refine one_ (i := 2) (N := none) #[true, true, true, false, false] rfl rfl (by kernel_rfl) (by decide) (fun K hK => ?_)
          have hs118 : w117.cell? ⟨gb147, 0, none⟩ = some (.int .i64 0) := (blk_cell BK147.out 0).trans rfl
          have hfs118 := blk_frozen BK147.out 0
          have hns118_0 := NB145_147.out
          have hns118_1 := NB146_147.out
          have hns118_3 := NB148_147.out
          have hns118_4 := NB155_147.out
          have hns118_5 := NB164_147.out
          have hms118_0 := NB147_145.out
          have hms118_1 := NB147_146.out
          have hms118_3 := NB147_148.out
          have hms118_4 := NB147_155.out
          have hms118_5 := NB147_164.out
          have hs119 : w117.cell? ⟨gb147, 1, none⟩ = some (.int .i64 0) := (blk_cell BK147.out 1).trans rfl
          have hfs119 := blk_frozen BK147.out 1
          have hns119_0 := NB145_147.out
          have hns119_1 := NB146_147.out
          have hns119_3 := NB148_147.out
          have hns119_4 := NB155_147.out
          have hns119_5 := NB164_147.out
          have hms119_0 := NB147_145.out
          have hms119_1 := NB147_146.out
          have hms119_3 := NB147_148.out
          have hms119_4 := NB147_155.out
          have hms119_5 := NB147_164.out
          have hs120 : w117.cell? ⟨gb147, 2, none⟩ = some (.int .i64 0) := (blk_cell BK147.out 2).trans rfl
          have hfs120 := blk_frozen BK147.out 2
          have hns120_0 := NB145_147.out
          have hns120_1 := NB146_147.out
          have hns120_3 := NB148_147.out
          have hns120_4 := NB155_147.out
          have hns120_5 := NB164_147.out
          have hms120_0 := NB147_145.out
          have hms120_1 := NB147_146.out
          have hms120_3 := NB147_148.out
          have hms120_4 := NB147_155.out
          have hms120_5 := NB147_164.out
          have hs121 : w117.cell? ⟨gb147, 3, none⟩ = some (.int .i64 0) := (blk_cell BK147.out 3).trans rfl
          have hfs121 := blk_frozen BK147.out 3
          have hns121_0 := NB145_147.out
          have hns121_1 := NB146_147.out
          have hns121_3 := NB148_147.out
          have hns121_4 := NB155_147.out
          have hns121_5 := NB164_147.out
          have hms121_0 := NB147_145.out
          have hms121_1 := NB147_146.out
          have hms121_3 := NB147_148.out
          have hms121_4 := NB147_155.out
          have hms121_5 := NB147_164.out
          have hs122 : w117.cell? ⟨gb147, 4, none⟩ = some (.string (⟨#[]⟩ : ByteArray)) := (blk_cell BK147.out 4).trans rfl
          have hfs122 := blk_frozen BK147.out 4
          have hns122_0 := NB145_147.out
          have hns122_1 := NB146_147.out
          have hns122_3 := NB148_147.out
          have hns122_4 := NB155_147.out
          have hns122_5 := NB164_147.out
          have hms122_0 := NB147_145.out
          have hms122_1 := NB147_146.out
          have hms122_3 := NB147_148.out
          have hms122_4 := NB147_155.out
          have hms122_5 := NB147_164.out
          have hs123 : w117.cell? ⟨gb147, 5, none⟩ = some (.string (⟨#[]⟩ : ByteArray)) := (blk_cell BK147.out 5).trans rfl
          have hfs123 := blk_frozen BK147.out 5
          have hns123_0 := NB145_147.out
          have hns123_1 := NB146_147.out
          have hns123_3 := NB148_147.out
          have hns123_4 := NB155_147.out
          have hns123_5 := NB164_147.out
          have hms123_0 := NB147_145.out
          have hms123_1 := NB147_146.out
          have hms123_3 := NB147_148.out
          have hms123_4 := NB147_155.out
          have hms123_5 := NB147_164.out
          refine skip_ (w1 := ?_) (by rfl) rfl ?_ ?_
          rotate_left
          ·go_simp
           rfl
          refine hK.out _ _ ⟨((cell_far (p := ⟨gb147, _, none⟩) NB164_147.out _).trans (((cell_far (p := ⟨gb147, _, none⟩) NB164_147.out _).trans (((cell_far (p := ⟨gb147, _, none⟩) NB164_147.out _).trans (((cell_far (p := ⟨gb147, _, none⟩) NB164_147.out _).trans (((cell_far (p := ⟨gb147, _, none⟩) NB164_147.out _).trans (((cell_far (p := ⟨gb147, _, none⟩) NB164_147.out _).trans (hHeld.1)))))))))))), ((cell_far (p := ⟨gb147, _, none⟩) NB164_147.out _).trans (((cell_far (p := ⟨gb147, _, none⟩) NB164_147.out _).trans (((cell_far (p := ⟨gb147, _, none⟩) NB164_147.out _).trans (((cell_far (p := ⟨gb147, _, none⟩) NB164_147.out _).trans (((cell_far (p := ⟨gb147, _, none⟩) NB164_147.out _).trans (((cell_far (p := ⟨gb147, _, none⟩) NB164_147.out _).trans (hHeld.2.1)))))))))))), ((cell_far (p := ⟨gb147, _, none⟩) NB164_147.out _).trans (((cell_far (p := ⟨gb147, _, none⟩) NB164_147.out _).trans (((cell_far (p := ⟨gb147, _, none⟩) NB164_147.out _).trans (((cell_far (p := ⟨gb147, _, none⟩) NB164_147.out _).trans (((cell_far (p := ⟨gb147, _, none⟩) NB164_147.out _).trans (((cell_far (p := ⟨gb147, _, none⟩) NB164_147.out _).trans (hHeld.2.2.1)))))))))))), ((cell_far (p := ⟨gb147, _, none⟩) NB164_147.out _).trans (((cell_far (p := ⟨gb147, _, none⟩) NB164_147.out _).trans (((cell_far (p := ⟨gb147, _, none⟩) NB164_147.out _).trans (((cell_far (p := ⟨gb147, _, none⟩) NB164_147.out _).trans (((cell_far (p := ⟨gb147, _, none⟩) NB164_147.out _).trans (((cell_far (p := ⟨gb147, _, none⟩) NB164_147.out _).trans (hHeld.2.2.2.1)))))))))))), ((cell_far (p := ⟨gb147, _, none⟩) NB164_147.out _).trans (((cell_far (p := ⟨gb147, _, none⟩) NB164_147.out _).trans (((cell_far (p := ⟨gb147, _, none⟩) NB164_147.out _).trans (((cell_far (p := ⟨gb147, _, none⟩) NB164_147.out _).trans (((cell_far (p := ⟨gb147, _, none⟩) NB164_147.out _).trans (((cell_far (p := ⟨gb147, _, none⟩) NB164_147.out _).trans (hHeld.2.2.2.2.1)))))))))))), ((cell_far (p := ⟨gb147, _, none⟩) NB164_147.out _).trans (((cell_far (p := ⟨gb147, _, none⟩) NB164_147.out _).trans (((cell_far (p := ⟨gb147, _, none⟩) NB164_147.out _).trans (((cell_far (p := ⟨gb147, _, none⟩) NB164_147.out _).trans (((cell_far (p := ⟨gb147, _, none⟩) NB164_147.out _).trans (((cell_far (p := ⟨gb147, _, none⟩) NB164_147.out _).trans (hHeld.2.2.2.2.2.1)))))))))))), ((cell_far (p := ⟨gb147, _, none⟩) NB155_147.out _).trans (((cell_far (p := ⟨gb147, _, none⟩) NB155_147.out _).trans (((cell_far (p := ⟨gb147, _, none⟩) NB155_147.out _).trans (((cell_far (p := ⟨gb147, _, none⟩) NB155_147.out _).trans (((cell_far (p := ⟨gb147, _, none⟩) NB155_147.out _).trans (((cell_far (p := ⟨gb147, _, none⟩) NB155_147.out _).trans (hHeld.2.2.2.2.2.2.1)))))))))))), ((cell_far (p := ⟨gb147, _, none⟩) NB155_147.out _).trans (((cell_far (p := ⟨gb147, _, none⟩) NB155_147.out _).trans (((cell_far (p := ⟨gb147, _, none⟩) NB155_147.out _).trans (((cell_far (p := ⟨gb147, _, none⟩) NB155_147.out _).trans (((cell_far (p := ⟨gb147, _, none⟩) NB155_147.out _).trans (((cell_far (p := ⟨gb147, _, none⟩) NB155_147.out _).trans (hHeld.2.2.2.2.2.2.2.1)))))))))))), ((cell_far (p := ⟨gb147, _, none⟩) NB155_147.out _).trans (((cell_far (p := ⟨gb147, _, none⟩) NB155_147.out _).trans (((cell_far (p := ⟨gb147, _, none⟩) NB155_147.out _).trans (((cell_far (p := ⟨gb147, _, none⟩) NB155_147.out _).trans (((cell_far (p := ⟨gb147, _, none⟩) NB155_147.out _).trans (((cell_far (p := ⟨gb147, _, none⟩) NB155_147.out _).trans (hHeld.2.2.2.2.2.2.2.2.1)))))))))))), ((cell_far (p := ⟨gb147, _, none⟩) NB155_147.out _).trans (((cell_far (p := ⟨gb147, _, none⟩) NB155_147.out _).trans (((cell_far (p := ⟨gb147, _, none⟩) NB155_147.out _).trans (((cell_far (p := ⟨gb147, _, none⟩) NB155_147.out _).trans (((cell_far (p := ⟨gb147, _, none⟩) NB155_147.out _).trans (((cell_far (p := ⟨gb147, _, none⟩) NB155_147.out _).trans (hHeld.2.2.2.2.2.2.2.2.2))))))))))))⟩ (fun hHeld => ?_)
          clear hK K
          refine one_ (i := 3) (N := none) #[true, true, true, true, false] rfl rfl (by kernel_rfl) (by decide) (fun K hK => ?_)
          have hs124 : w117.cell? ⟨gb148, 0, none⟩ = some (.int .i64 0) := (blk_cell BK148.out 0).trans rfl
          have hfs124 := blk_frozen BK148.out 0
          have hns124_0 := NB145_148.out
          have hns124_1 := NB146_148.out
          have hns124_2 := NB147_148.out
          have hns124_4 := NB155_148.out
          have hns124_5 := NB164_148.out
          have hms124_0 := NB148_145.out
          have hms124_1 := NB148_146.out
          have hms124_2 := NB148_147.out
          have hms124_4 := NB148_155.out
          have hms124_5 := NB148_164.out
          have hs125 : w117.cell? ⟨gb148, 1, none⟩ = some (.int .i64 0) := (blk_cell BK148.out 1).trans rfl
          have hfs125 := blk_frozen BK148.out 1
          have hns125_0 := NB145_148.out
          have hns125_1 := NB146_148.out
          have hns125_2 := NB147_148.out
          have hns125_4 := NB155_148.out
          have hns125_5 := NB164_148.out
          have hms125_0 := NB148_145.out
          have hms125_1 := NB148_146.out
          have hms125_2 := NB148_147.out
          have hms125_4 := NB148_155.out
          have hms125_5 := NB148_164.out
          have hs126 : w117.cell? ⟨gb148, 2, none⟩ = some (.int .i64 0) := (blk_cell BK148.out 2).trans rfl
          have hfs126 := blk_frozen BK148.out 2
          have hns126_0 := NB145_148.out
          have hns126_1 := NB146_148.out
          have hns126_2 := NB147_148.out
          have hns126_4 := NB155_148.out
          have hns126_5 := NB164_148.out
          have hms126_0 := NB148_145.out
          have hms126_1 := NB148_146.out
          have hms126_2 := NB148_147.out
          have hms126_4 := NB148_155.out
          have hms126_5 := NB148_164.out
          have hs127 : w117.cell? ⟨gb148, 3, none⟩ = some (.int .i64 0) := (blk_cell BK148.out 3).trans rfl
          have hfs127 := blk_frozen BK148.out 3
          have hns127_0 := NB145_148.out
          have hns127_1 := NB146_148.out
          have hns127_2 := NB147_148.out
          have hns127_4 := NB155_148.out
          have hns127_5 := NB164_148.out
          have hms127_0 := NB148_145.out
          have hms127_1 := NB148_146.out
          have hms127_2 := NB148_147.out
          have hms127_4 := NB148_155.out
          have hms127_5 := NB148_164.out
          refine skip_ (w1 := ?_) (by rfl) rfl ?_ ?_
          rotate_left
          ·go_simp
           rfl
          refine hK.out _ _ ⟨((cell_far (p := ⟨gb148, _, none⟩) NB164_148.out _).trans (((cell_far (p := ⟨gb148, _, none⟩) NB164_148.out _).trans (((cell_far (p := ⟨gb148, _, none⟩) NB164_148.out _).trans (((cell_far (p := ⟨gb148, _, none⟩) NB164_148.out _).trans (hHeld.1)))))))), ((cell_far (p := ⟨gb148, _, none⟩) NB164_148.out _).trans (((cell_far (p := ⟨gb148, _, none⟩) NB164_148.out _).trans (((cell_far (p := ⟨gb148, _, none⟩) NB164_148.out _).trans (((cell_far (p := ⟨gb148, _, none⟩) NB164_148.out _).trans (hHeld.2.1)))))))), ((cell_far (p := ⟨gb148, _, none⟩) NB164_148.out _).trans (((cell_far (p := ⟨gb148, _, none⟩) NB164_148.out _).trans (((cell_far (p := ⟨gb148, _, none⟩) NB164_148.out _).trans (((cell_far (p := ⟨gb148, _, none⟩) NB164_148.out _).trans (hHeld.2.2.1)))))))), ((cell_far (p := ⟨gb148, _, none⟩) NB164_148.out _).trans (((cell_far (p := ⟨gb148, _, none⟩) NB164_148.out _).trans (((cell_far (p := ⟨gb148, _, none⟩) NB164_148.out _).trans (((cell_far (p := ⟨gb148, _, none⟩) NB164_148.out _).trans (hHeld.2.2.2.1)))))))), ((cell_far (p := ⟨gb148, _, none⟩) NB164_148.out _).trans (((cell_far (p := ⟨gb148, _, none⟩) NB164_148.out _).trans (((cell_far (p := ⟨gb148, _, none⟩) NB164_148.out _).trans (((cell_far (p := ⟨gb148, _, none⟩) NB164_148.out _).trans (hHeld.2.2.2.2.1)))))))), ((cell_far (p := ⟨gb148, _, none⟩) NB164_148.out _).trans (((cell_far (p := ⟨gb148, _, none⟩) NB164_148.out _).trans (((cell_far (p := ⟨gb148, _, none⟩) NB164_148.out _).trans (((cell_far (p := ⟨gb148, _, none⟩) NB164_148.out _).trans (hHeld.2.2.2.2.2.1)))))))), ((cell_far (p := ⟨gb148, _, none⟩) NB155_148.out _).trans (((cell_far (p := ⟨gb148, _, none⟩) NB155_148.out _).trans (((cell_far (p := ⟨gb148, _, none⟩) NB155_148.out _).trans (((cell_far (p := ⟨gb148, _, none⟩) NB155_148.out _).trans (hHeld.2.2.2.2.2.2.1)))))))), ((cell_far (p := ⟨gb148, _, none⟩) NB155_148.out _).trans (((cell_far (p := ⟨gb148, _, none⟩) NB155_148.out _).trans (((cell_far (p := ⟨gb148, _, none⟩) NB155_148.out _).trans (((cell_far (p := ⟨gb148, _, none⟩) NB155_148.out _).trans (hHeld.2.2.2.2.2.2.2.1)))))))), ((cell_far (p := ⟨gb148, _, none⟩) NB155_148.out _).trans (((cell_far (p := ⟨gb148, _, none⟩) NB155_148.out _).trans (((cell_far (p := ⟨gb148, _, none⟩) NB155_148.out _).trans (((cell_far (p := ⟨gb148, _, none⟩) NB155_148.out _).trans (hHeld.2.2.2.2.2.2.2.2.1)))))))), ((cell_far (p := ⟨gb148, _, none⟩) NB155_148.out _).trans (((cell_far (p := ⟨gb148, _, none⟩) NB155_148.out _).trans (((cell_far (p := ⟨gb148, _, none⟩) NB155_148.out _).trans (((cell_far (p := ⟨gb148, _, none⟩) NB155_148.out _).trans (hHeld.2.2.2.2.2.2.2.2.2))))))))⟩ (fun hHeld => ?_)
          clear hK K
          refine pure_ (i := 4) (N := some 6) (v := ?_) (a' := ?_) #[true, true, true, true, true] rfl rfl (by kernel_rfl) (fun _ _ _ h => h) (Or.inl ⟨by rfl, ?_⟩) ?_ ?_
          rotate_left
          ·intro w'
           go_simp
           with_reducible rfl
          rotate_left
          ·simp only [Act.put, List.setIfInBounds_toArray, List.set_cons_zero, List.set_cons_succ, i64_w, i32_w]
           rfl
          refine done_ (by kernel_rfl) ?_
          try go_wp2
          refine bodyPost_ret (results_list (rs := [.cell 4 26, .cell 5 24, .tmp 6]) rfl (by simp) (.cell gb147 26 #[.int .i64 t160, .int .i64 t161, .int .i64 t162, .int .i64 t163, .string x165004_46, .string t166] (0, 0) _ rfl (by (with_reducible repeat (first | refine blk_drewN ?_ _ | refine blk_drew ?_ | refine blk_alloc ?_ _)); refine blk_far ?_ NB147_148.out _; (with_reducible repeat (first | refine blk_drewN ?_ _ | refine blk_drew ?_ | refine blk_alloc ?_ _)); refine blk_far ?_ NB147_148.out _; (with_reducible repeat (first | refine blk_drewN ?_ _ | refine blk_drew ?_ | refine blk_alloc ?_ _)); refine blk_far ?_ NB147_148.out _; (with_reducible repeat (first | refine blk_drewN ?_ _ | refine blk_drew ?_ | refine blk_alloc ?_ _)); refine blk_far ?_ NB147_148.out _; (with_reducible repeat (first | refine blk_drewN ?_ _ | refine blk_drew ?_ | refine blk_alloc ?_ _)); refine blk_put (cs := #[.int .i64 t160, .int .i64 t161, .int .i64 t162, .int .i64 t163, .string x165004_46, .string (⟨#[]⟩ : ByteArray)]) ?_ 5 _ rfl; (with_reducible repeat (first | refine blk_drewN ?_ _ | refine blk_drew ?_ | refine blk_alloc ?_ _)); refine blk_put (cs := #[.int .i64 t160, .int .i64 t161, .int .i64 t162, .int .i64 t163, .string (⟨#[]⟩ : ByteArray), .string (⟨#[]⟩ : ByteArray)]) ?_ 4 _ rfl; (with_reducible repeat (first | refine blk_drewN ?_ _ | refine blk_drew ?_ | refine blk_alloc ?_ _)); refine blk_put (cs := #[.int .i64 t160, .int .i64 t161, .int .i64 t162, .int .i64 0, .string (⟨#[]⟩ : ByteArray), .string (⟨#[]⟩ : ByteArray)]) ?_ 3 _ rfl; (with_reducible repeat (first | refine blk_drewN ?_ _ | refine blk_drew ?_ | refine blk_alloc ?_ _)); refine blk_put (cs := #[.int .i64 t160, .int .i64 t161, .int .i64 0, .int .i64 0, .string (⟨#[]⟩ : ByteArray), .string (⟨#[]⟩ : ByteArray)]) ?_ 2 _ rfl; (with_reducible repeat (first | refine blk_drewN ?_ _ | refine blk_drew ?_ | refine blk_alloc ?_ _)); refine blk_put (cs := #[.int .i64 t160, .int .i64 0, .int .i64 0, .int .i64 0, .string (⟨#[]⟩ : ByteArray), .string (⟨#[]⟩ : ByteArray)]) ?_ 1 _ rfl; (with_reducible repeat (first | refine blk_drewN ?_ _ | refine blk_drew ?_ | refine blk_alloc ?_ _)); refine blk_put (cs := #[.int .i64 0, .int .i64 0, .int .i64 0, .int .i64 0, .string (⟨#[]⟩ : ByteArray), .string (⟨#[]⟩ : ByteArray)]) ?_ 0 _ rfl; (with_reducible repeat (first | refine blk_drewN ?_ _ | refine blk_drew ?_ | refine blk_alloc ?_ _)); exact BK147.out) Tryd.underlying26 rfl (by kernel_rfl) (.cell gb148 24 #[.int .i64 t151, .int .i64 t152, .int .i64 t153, .int .i64 t154] (0, 0) _ rfl (by (with_reducible repeat (first | refine blk_drewN ?_ _ | refine blk_drew ?_ | refine blk_alloc ?_ _)); refine blk_put (cs := #[.int .i64 t151, .int .i64 t152, .int .i64 t153, .int .i64 0]) ?_ 3 _ rfl; (with_reducible repeat (first | refine blk_drewN ?_ _ | refine blk_drew ?_ | refine blk_alloc ?_ _)); refine blk_put (cs := #[.int .i64 t151, .int .i64 t152, .int .i64 0, .int .i64 0]) ?_ 2 _ rfl; (with_reducible repeat (first | refine blk_drewN ?_ _ | refine blk_drew ?_ | refine blk_alloc ?_ _)); refine blk_put (cs := #[.int .i64 t151, .int .i64 0, .int .i64 0, .int .i64 0]) ?_ 1 _ rfl; (with_reducible repeat (first | refine blk_drewN ?_ _ | refine blk_drew ?_ | refine blk_alloc ?_ _)); refine blk_put (cs := #[.int .i64 0, .int .i64 0, .int .i64 0, .int .i64 0]) ?_ 0 _ rfl; (with_reducible repeat (first | refine blk_drewN ?_ _ | refine blk_drew ?_ | refine blk_alloc ?_ _)); refine blk_far ?_ NB148_147.out _; (with_reducible repeat (first | refine blk_drewN ?_ _ | refine blk_drew ?_ | refine blk_alloc ?_ _)); refine blk_far ?_ NB148_147.out _; (with_reducible repeat (first | refine blk_drewN ?_ _ | refine blk_drew ?_ | refine blk_alloc ?_ _)); refine blk_far ?_ NB148_147.out _; (with_reducible repeat (first | refine blk_drewN ?_ _ | refine blk_drew ?_ | refine blk_alloc ?_ _)); refine blk_far ?_ NB148_147.out _; (with_reducible repeat (first | refine blk_drewN ?_ _ | refine blk_drew ?_ | refine blk_alloc ?_ _)); refine blk_far ?_ NB148_147.out _; (with_reducible repeat (first | refine blk_drewN ?_ _ | refine blk_drew ?_ | refine blk_alloc ?_ _)); refine blk_far ?_ NB148_147.out _; (with_reducible repeat (first | refine blk_drewN ?_ _ | refine blk_drew ?_ | refine blk_alloc ?_ _)); exact BK148.out) Tryd.underlying24 rfl (by kernel_rfl) (.tmp .nil)))) rfl ?_
          exact ⟨by first | rfl | (simp [*] <;> rfl), by repeat (first | (with_reducible first | exact HB.out | apply below_alloc | apply pw_below_drewN | apply below_drew1 | refine below_set ?_ GE145.out | refine below_set ?_ GE146.out | refine below_set ?_ GE147.out | refine below_set ?_ GE148.out | refine below_set ?_ GE155.out | refine below_set ?_ GE164.out) | exact HB.out)⟩
         ·replace c99 := Bool.eq_false_iff.mpr c99
          subst c99
          have H1 : (some (0, 0, 0, 0, (⟨#[]⟩ : ByteArray), (⟨#[]⟩ : ByteArray), 0, 0, 0, 0, 50)) = some (r1, r2, r3, r4, r5, r6, r7, r8, r9, r10, r11) := by rw [if_neg (show ¬ (false = true) by decide)] at H; exact H
          clear H
          have H := H1
          clear H1
          simp only [Option.some.injEq, Prod.mk.injEq] at H
          obtain ⟨rfl, rfl, rfl, rfl, rfl, rfl, rfl, rfl, rfl, rfl, rfl⟩ := H
          have hnb128 := NB146_145.out
          have hnc128 := NB145_146.out
          have hnb129 := NB146_147.out
          have hnc129 := NB147_146.out
          have hnb130 := NB146_148.out
          have hnc130 := NB148_146.out
          have hnb131 := NB146_155.out
          have hnc131 := NB155_146.out
          have hnb132 := NB146_164.out
          have hnc132 := NB164_146.out
          have hcz133_0 : wc.cell? ⟨gb146, 0, none⟩ = some (.int .i64 a1_0) := (blk_cell BK146.out 0).trans rfl
          have hcz133_1 : wc.cell? ⟨gb146, 1, none⟩ = some (.int .i64 a1_1) := (blk_cell BK146.out 1).trans rfl
          have hcz133_2 : wc.cell? ⟨gb146, 2, none⟩ = some (.int .i64 a1_2) := (blk_cell BK146.out 2).trans rfl
          have hcz133_3 : wc.cell? ⟨gb146, 3, none⟩ = some (.int .i64 a1_3) := (blk_cell BK146.out 3).trans rfl
          have hcz133_4 : wc.cell? ⟨gb146, 4, none⟩ = some (.string a1_4) := (blk_cell BK146.out 4).trans rfl
          have hcz133_5 : wc.cell? ⟨gb146, 5, none⟩ = some (.string a1_5) := (blk_cell BK146.out 5).trans rfl
          have hfz133_0 := blk_frozen BK146.out 0
          have hfz133_1 := blk_frozen BK146.out 1
          have hfz133_2 := blk_frozen BK146.out 2
          have hfz133_3 := blk_frozen BK146.out 3
          have hfz133_4 := blk_frozen BK146.out 4
          have hfz133_5 := blk_frozen BK146.out 5
          have hnb134 := NB145_147.out
          have hnc134 := NB147_145.out
          have hnb135 := NB145_148.out
          have hnc135 := NB148_145.out
          have hnb136 := NB145_155.out
          have hnc136 := NB155_145.out
          have hnb137 := NB145_164.out
          have hnc137 := NB164_145.out
          have hcz138_0 : wc.cell? ⟨gb145, 0, none⟩ = some (.int .i64 a0_0) := (blk_cell BK145.out 0).trans rfl
          have hcz138_1 : wc.cell? ⟨gb145, 1, none⟩ = some (.int .i64 a0_1) := (blk_cell BK145.out 1).trans rfl
          have hcz138_2 : wc.cell? ⟨gb145, 2, none⟩ = some (.int .i64 a0_2) := (blk_cell BK145.out 2).trans rfl
          have hcz138_3 : wc.cell? ⟨gb145, 3, none⟩ = some (.int .i64 a0_3) := (blk_cell BK145.out 3).trans rfl
          have hcz138_4 : wc.cell? ⟨gb145, 4, none⟩ = some (.string a0_4) := (blk_cell BK145.out 4).trans rfl
          have hcz138_5 : wc.cell? ⟨gb145, 5, none⟩ = some (.string a0_5) := (blk_cell BK145.out 5).trans rfl
          have hfz138_0 := blk_frozen BK145.out 0
          have hfz138_1 := blk_frozen BK145.out 1
          have hfz138_2 := blk_frozen BK145.out 2
          have hfz138_3 := blk_frozen BK145.out 3
          have hfz138_4 := blk_frozen BK145.out 4
          have hfz138_5 := blk_frozen BK145.out 5
          go_wp2_with (first | ((with_reducible refine gate_callee (f := 41) rfl ?_); refine goesL_ (some 66) rfl rfl Tryd.func41 (by kernel_rfl) rfl #[.string (a0_5 ++ a1_5)] rfl (by (try simp only [List.map_toArray, List.map_cons, List.map_nil]); first | done | rfl | (simp only [List.length_drop, List.length_take]; rfl)) ?_; (with_reducible refine (weld_tail.calls (a0_5 ++ a1_5) t166 _ A97.out).mono ?_); rintro e w139 ⟨rfl, hb⟩; refine ⟨_, rfl, ?_⟩; have n0_ := Aside0.mk (blk_below (g := gb145) (o := .cells #[.int .i64 a0_0, .int .i64 a0_1, .int .i64 a0_2, .int .i64 a0_3, .string a0_4, .string a0_5] 26 (0, 0)) (by (with_reducible repeat (first | refine blk_drewN ?_ _ | refine blk_drew ?_ | refine blk_alloc ?_ _)); exact BK145.out) hb); have n1_ := Aside0.mk (blk_below (g := gb146) (o := .cells #[.int .i64 a1_0, .int .i64 a1_1, .int .i64 a1_2, .int .i64 a1_3, .string a1_4, .string a1_5] 26 (0, 0)) (by (with_reducible repeat (first | refine blk_drewN ?_ _ | refine blk_drew ?_ | refine blk_alloc ?_ _)); exact BK146.out) hb); have n2_ := Aside0.mk (blk_below (g := gb147) (o := .cells #[.int .i64 0, .int .i64 0, .int .i64 0, .int .i64 0, .string (⟨#[]⟩ : ByteArray), .string (⟨#[]⟩ : ByteArray)] 26 (0, 0)) (by (with_reducible repeat (first | refine blk_drewN ?_ _ | refine blk_drew ?_ | refine blk_alloc ?_ _)); exact BK147.out) hb); have n3_ := Aside0.mk (blk_below (g := gb148) (o := .cells #[.int .i64 0, .int .i64 0, .int .i64 0, .int .i64 0] 24 (0, 0)) (by (with_reducible repeat (first | refine blk_drewN ?_ _ | refine blk_drew ?_ | refine blk_alloc ?_ _)); exact BK148.out) hb); have n4_ := Aside0.mk (blk_below (g := gb155) (o := .cells #[.int .i64 t151, .int .i64 t152, .int .i64 t153, .int .i64 t154] 24 (0, 0)) (by (with_reducible repeat (first | refine blk_drewN ?_ _ | refine blk_drew ?_ | refine blk_alloc ?_ _)); exact BK155.out) hb); have n5_ := Aside0.mk (blk_below (g := gb164) (o := .cells #[.int .i64 t160, .int .i64 t161, .int .i64 t162, .int .i64 t163, .string x165004_46, .string a1_5] 26 (0, 0)) (by (with_reducible repeat (first | refine blk_drewN ?_ _ | refine blk_drew ?_ | refine blk_alloc ?_ _)); exact BK164.out) hb); have n6_ := Aside0.mk (below_step (by repeat (first | (with_reducible first | exact HB.out | apply below_alloc | apply pw_below_drewN | apply below_drew1 | refine below_set ?_ GE145.out | refine below_set ?_ GE146.out | refine below_set ?_ GE147.out | refine below_set ?_ GE148.out | refine below_set ?_ GE155.out | refine below_set ?_ GE164.out) | exact HB.out)) hb); clear BK145; clear BK146; clear BK147; clear BK148; clear BK155; clear BK164; clear HB; have BK145 := n0_; have BK146 := n1_; have BK147 := n2_; have BK148 := n3_; have BK155 := n4_; have BK164 := n5_; have HB := n6_; clear n0_ n1_ n2_ n3_ n4_ n5_ n6_; (try clear hb); (try clear hb2); (try clear hk); (try clear hi); have hnb140 := NB164_147.out; have hnc140 := NB147_164.out; have hnb141 := NB164_148.out; have hnc141 := NB148_164.out; have hnb142 := NB164_155.out; have hnc142 := NB155_164.out; have hcz143_0 : w139.cell? ⟨gb164, 0, none⟩ = some (.int .i64 t160) := (blk_cell BK164.out 0).trans rfl; have hcz143_1 : w139.cell? ⟨gb164, 1, none⟩ = some (.int .i64 t161) := (blk_cell BK164.out 1).trans rfl; have hcz143_2 : w139.cell? ⟨gb164, 2, none⟩ = some (.int .i64 t162) := (blk_cell BK164.out 2).trans rfl; have hcz143_3 : w139.cell? ⟨gb164, 3, none⟩ = some (.int .i64 t163) := (blk_cell BK164.out 3).trans rfl; have hcz143_4 : w139.cell? ⟨gb164, 4, none⟩ = some (.string x165004_46) := (blk_cell BK164.out 4).trans rfl; have hcz143_5 : w139.cell? ⟨gb164, 5, none⟩ = some (.string a1_5) := (blk_cell BK164.out 5).trans rfl; have hfz143_0 := blk_frozen BK164.out 0; have hfz143_1 := blk_frozen BK164.out 1; have hfz143_2 := blk_frozen BK164.out 2; have hfz143_3 := blk_frozen BK164.out 3; have hfz143_4 := blk_frozen BK164.out 4; have hfz143_5 := blk_frozen BK164.out 5) | ((with_reducible refine gate_callee (f := 11) rfl ?_); refine goesL_ (some 69) rfl rfl Tryd.func11 (by kernel_rfl) rfl #[.agg #[.int .i64 t160, .int .i64 t161, .int .i64 t162, .int .i64 t163, .string x165004_46, .string t166]] rfl (by (try simp only [List.map_toArray, List.map_cons, List.map_nil]); first | done | rfl | (simp only [List.length_drop, List.length_take]; rfl)) ?_; (with_reducible refine (weld_Valid.calls kj46 t160 t161 t162 t163 x165004_46 t166 false _ ?side1 A98.out).mono ?_); (case side1 => first | (with_reducible exact HG.out) | exact Glob.Globs_below HG.out (by repeat (first | (with_reducible first | exact HB.out | apply below_alloc | apply pw_below_drewN | apply below_drew1 | refine below_set ?_ GE145.out | refine below_set ?_ GE146.out | refine below_set ?_ GE147.out | refine below_set ?_ GE148.out | refine below_set ?_ GE155.out | refine below_set ?_ GE164.out) | exact HB.out))); rintro e w144 ⟨rfl, hb⟩; refine ⟨_, rfl, ?_⟩; have n0_ := Aside0.mk (blk_below (g := gb145) (o := .cells #[.int .i64 a0_0, .int .i64 a0_1, .int .i64 a0_2, .int .i64 a0_3, .string a0_4, .string a0_5] 26 (0, 0)) (by (with_reducible repeat (first | refine blk_drewN ?_ _ | refine blk_drew ?_ | refine blk_alloc ?_ _)); refine blk_far ?_ NB145_164.out _; (with_reducible repeat (first | refine blk_drewN ?_ _ | refine blk_drew ?_ | refine blk_alloc ?_ _)); exact BK145.out) hb); have n1_ := Aside0.mk (blk_below (g := gb146) (o := .cells #[.int .i64 a1_0, .int .i64 a1_1, .int .i64 a1_2, .int .i64 a1_3, .string a1_4, .string a1_5] 26 (0, 0)) (by (with_reducible repeat (first | refine blk_drewN ?_ _ | refine blk_drew ?_ | refine blk_alloc ?_ _)); refine blk_far ?_ NB146_164.out _; (with_reducible repeat (first | refine blk_drewN ?_ _ | refine blk_drew ?_ | refine blk_alloc ?_ _)); exact BK146.out) hb); have n2_ := Aside0.mk (blk_below (g := gb147) (o := .cells #[.int .i64 0, .int .i64 0, .int .i64 0, .int .i64 0, .string (⟨#[]⟩ : ByteArray), .string (⟨#[]⟩ : ByteArray)] 26 (0, 0)) (by (with_reducible repeat (first | refine blk_drewN ?_ _ | refine blk_drew ?_ | refine blk_alloc ?_ _)); refine blk_far ?_ NB147_164.out _; (with_reducible repeat (first | refine blk_drewN ?_ _ | refine blk_drew ?_ | refine blk_alloc ?_ _)); exact BK147.out) hb); have n3_ := Aside0.mk (blk_below (g := gb148) (o := .cells #[.int .i64 0, .int .i64 0, .int .i64 0, .int .i64 0] 24 (0, 0)) (by (with_reducible repeat (first | refine blk_drewN ?_ _ | refine blk_drew ?_ | refine blk_alloc ?_ _)); refine blk_far ?_ NB148_164.out _; (with_reducible repeat (first | refine blk_drewN ?_ _ | refine blk_drew ?_ | refine blk_alloc ?_ _)); exact BK148.out) hb); have n4_ := Aside0.mk (blk_below (g := gb155) (o := .cells #[.int .i64 t151, .int .i64 t152, .int .i64 t153, .int .i64 t154] 24 (0, 0)) (by (with_reducible repeat (first | refine blk_drewN ?_ _ | refine blk_drew ?_ | refine blk_alloc ?_ _)); refine blk_far ?_ NB155_164.out _; (with_reducible repeat (first | refine blk_drewN ?_ _ | refine blk_drew ?_ | refine blk_alloc ?_ _)); exact BK155.out) hb); have n5_ := Aside0.mk (blk_below (g := gb164) (o := .cells #[.int .i64 t160, .int .i64 t161, .int .i64 t162, .int .i64 t163, .string x165004_46, .string t166] 26 (0, 0)) (by (with_reducible repeat (first | refine blk_drewN ?_ _ | refine blk_drew ?_ | refine blk_alloc ?_ _)); refine blk_put (cs := #[.int .i64 t160, .int .i64 t161, .int .i64 t162, .int .i64 t163, .string x165004_46, .string a1_5]) ?_ 5 _ rfl; (with_reducible repeat (first | refine blk_drewN ?_ _ | refine blk_drew ?_ | refine blk_alloc ?_ _)); exact BK164.out) hb); have n6_ := Aside0.mk (below_step (by repeat (first | (with_reducible first | exact HB.out | apply below_alloc | apply pw_below_drewN | apply below_drew1 | refine below_set ?_ GE145.out | refine below_set ?_ GE146.out | refine below_set ?_ GE147.out | refine below_set ?_ GE148.out | refine below_set ?_ GE155.out | refine below_set ?_ GE164.out) | exact HB.out)) hb); clear BK145; clear BK146; clear BK147; clear BK148; clear BK155; clear BK164; clear HB; have BK145 := n0_; have BK146 := n1_; have BK147 := n2_; have BK148 := n3_; have BK155 := n4_; have BK164 := n5_; have HB := n6_; clear n0_ n1_ n2_ n3_ n4_ n5_ n6_; (try clear hb); (try clear hb2); (try clear hk); (try clear hi); have hnb145 := NB147_148.out; have hnc145 := NB148_147.out; have hnb146 := NB147_155.out; have hnc146 := NB155_147.out; have hcz147_0 : w144.cell? ⟨gb147, 0, none⟩ = some (.int .i64 0) := (blk_cell BK147.out 0).trans rfl; have hcz147_1 : w144.cell? ⟨gb147, 1, none⟩ = some (.int .i64 0) := (blk_cell BK147.out 1).trans rfl; have hcz147_2 : w144.cell? ⟨gb147, 2, none⟩ = some (.int .i64 0) := (blk_cell BK147.out 2).trans rfl; have hcz147_3 : w144.cell? ⟨gb147, 3, none⟩ = some (.int .i64 0) := (blk_cell BK147.out 3).trans rfl; have hcz147_4 : w144.cell? ⟨gb147, 4, none⟩ = some (.string (⟨#[]⟩ : ByteArray)) := (blk_cell BK147.out 4).trans rfl; have hcz147_5 : w144.cell? ⟨gb147, 5, none⟩ = some (.string (⟨#[]⟩ : ByteArray)) := (blk_cell BK147.out 5).trans rfl; have hfz147_0 := blk_frozen BK147.out 0; have hfz147_1 := blk_frozen BK147.out 1; have hfz147_2 := blk_frozen BK147.out 2; have hfz147_3 := blk_frozen BK147.out 3; have hfz147_4 := blk_frozen BK147.out 4; have hfz147_5 := blk_frozen BK147.out 5; have hnb148 := NB148_155.out; have hnc148 := NB155_148.out; have hcz149_0 : w144.cell? ⟨gb148, 0, none⟩ = some (.int .i64 0) := (blk_cell BK148.out 0).trans rfl; have hcz149_1 : w144.cell? ⟨gb148, 1, none⟩ = some (.int .i64 0) := (blk_cell BK148.out 1).trans rfl; have hcz149_2 : w144.cell? ⟨gb148, 2, none⟩ = some (.int .i64 0) := (blk_cell BK148.out 2).trans rfl; have hcz149_3 : w144.cell? ⟨gb148, 3, none⟩ = some (.int .i64 0) := (blk_cell BK148.out 3).trans rfl; have hfz149_0 := blk_frozen BK148.out 0; have hfz149_1 := blk_frozen BK148.out 1; have hfz149_2 := blk_frozen BK148.out 2; have hfz149_3 := blk_frozen BK148.out 3))
          refine bodyPost_ret (results_list (rs := [.cell 4 26, .cell 5 24, .tmp 6]) rfl (by simp) (.cell gb147 26 #[.int .i64 0, .int .i64 0, .int .i64 0, .int .i64 0, .string (⟨#[]⟩ : ByteArray), .string (⟨#[]⟩ : ByteArray)] (0, 0) _ rfl (by (with_reducible repeat (first | refine blk_drewN ?_ _ | refine blk_drew ?_ | refine blk_alloc ?_ _)); refine blk_far ?_ NB147_148.out _; (with_reducible repeat (first | refine blk_drewN ?_ _ | refine blk_drew ?_ | refine blk_alloc ?_ _)); refine blk_far ?_ NB147_148.out _; (with_reducible repeat (first | refine blk_drewN ?_ _ | refine blk_drew ?_ | refine blk_alloc ?_ _)); refine blk_far ?_ NB147_148.out _; (with_reducible repeat (first | refine blk_drewN ?_ _ | refine blk_drew ?_ | refine blk_alloc ?_ _)); refine blk_far ?_ NB147_148.out _; (with_reducible repeat (first | refine blk_drewN ?_ _ | refine blk_drew ?_ | refine blk_alloc ?_ _)); refine blk_put (cs := #[.int .i64 0, .int .i64 0, .int .i64 0, .int .i64 0, .string (⟨#[]⟩ : ByteArray), .string (⟨#[]⟩ : ByteArray)]) ?_ 5 _ rfl; (with_reducible repeat (first | refine blk_drewN ?_ _ | refine blk_drew ?_ | refine blk_alloc ?_ _)); refine blk_put (cs := #[.int .i64 0, .int .i64 0, .int .i64 0, .int .i64 0, .string (⟨#[]⟩ : ByteArray), .string (⟨#[]⟩ : ByteArray)]) ?_ 4 _ rfl; (with_reducible repeat (first | refine blk_drewN ?_ _ | refine blk_drew ?_ | refine blk_alloc ?_ _)); refine blk_put (cs := #[.int .i64 0, .int .i64 0, .int .i64 0, .int .i64 0, .string (⟨#[]⟩ : ByteArray), .string (⟨#[]⟩ : ByteArray)]) ?_ 3 _ rfl; (with_reducible repeat (first | refine blk_drewN ?_ _ | refine blk_drew ?_ | refine blk_alloc ?_ _)); refine blk_put (cs := #[.int .i64 0, .int .i64 0, .int .i64 0, .int .i64 0, .string (⟨#[]⟩ : ByteArray), .string (⟨#[]⟩ : ByteArray)]) ?_ 2 _ rfl; (with_reducible repeat (first | refine blk_drewN ?_ _ | refine blk_drew ?_ | refine blk_alloc ?_ _)); refine blk_put (cs := #[.int .i64 0, .int .i64 0, .int .i64 0, .int .i64 0, .string (⟨#[]⟩ : ByteArray), .string (⟨#[]⟩ : ByteArray)]) ?_ 1 _ rfl; (with_reducible repeat (first | refine blk_drewN ?_ _ | refine blk_drew ?_ | refine blk_alloc ?_ _)); refine blk_put (cs := #[.int .i64 0, .int .i64 0, .int .i64 0, .int .i64 0, .string (⟨#[]⟩ : ByteArray), .string (⟨#[]⟩ : ByteArray)]) ?_ 0 _ rfl; (with_reducible repeat (first | refine blk_drewN ?_ _ | refine blk_drew ?_ | refine blk_alloc ?_ _)); exact BK147.out) Tryd.underlying26 rfl (by kernel_rfl) (.cell gb148 24 #[.int .i64 0, .int .i64 0, .int .i64 0, .int .i64 0] (0, 0) _ rfl (by (with_reducible repeat (first | refine blk_drewN ?_ _ | refine blk_drew ?_ | refine blk_alloc ?_ _)); refine blk_put (cs := #[.int .i64 0, .int .i64 0, .int .i64 0, .int .i64 0]) ?_ 3 _ rfl; (with_reducible repeat (first | refine blk_drewN ?_ _ | refine blk_drew ?_ | refine blk_alloc ?_ _)); refine blk_put (cs := #[.int .i64 0, .int .i64 0, .int .i64 0, .int .i64 0]) ?_ 2 _ rfl; (with_reducible repeat (first | refine blk_drewN ?_ _ | refine blk_drew ?_ | refine blk_alloc ?_ _)); refine blk_put (cs := #[.int .i64 0, .int .i64 0, .int .i64 0, .int .i64 0]) ?_ 1 _ rfl; (with_reducible repeat (first | refine blk_drewN ?_ _ | refine blk_drew ?_ | refine blk_alloc ?_ _)); refine blk_put (cs := #[.int .i64 0, .int .i64 0, .int .i64 0, .int .i64 0]) ?_ 0 _ rfl; (with_reducible repeat (first | refine blk_drewN ?_ _ | refine blk_drew ?_ | refine blk_alloc ?_ _)); refine blk_far ?_ NB148_147.out _; (with_reducible repeat (first | refine blk_drewN ?_ _ | refine blk_drew ?_ | refine blk_alloc ?_ _)); refine blk_far ?_ NB148_147.out _; (with_reducible repeat (first | refine blk_drewN ?_ _ | refine blk_drew ?_ | refine blk_alloc ?_ _)); refine blk_far ?_ NB148_147.out _; (with_reducible repeat (first | refine blk_drewN ?_ _ | refine blk_drew ?_ | refine blk_alloc ?_ _)); refine blk_far ?_ NB148_147.out _; (with_reducible repeat (first | refine blk_drewN ?_ _ | refine blk_drew ?_ | refine blk_alloc ?_ _)); refine blk_far ?_ NB148_147.out _; (with_reducible repeat (first | refine blk_drewN ?_ _ | refine blk_drew ?_ | refine blk_alloc ?_ _)); refine blk_far ?_ NB148_147.out _; (with_reducible repeat (first | refine blk_drewN ?_ _ | refine blk_drew ?_ | refine blk_alloc ?_ _)); exact BK148.out) Tryd.underlying24 rfl (by kernel_rfl) (.tmp .nil)))) rfl ?_
          exact ⟨by first | rfl | (simp [*] <;> rfl), by repeat (first | (with_reducible first | exact HB.out | apply below_alloc | apply pw_below_drewN | apply below_drew1 | refine below_set ?_ GE145.out | refine below_set ?_ GE146.out | refine below_set ?_ GE147.out | refine below_set ?_ GE148.out | refine below_set ?_ GE155.out | refine below_set ?_ GE164.out) | exact HB.out)⟩
        ·rw [if_neg c96] at H
         exact absurd H (by simp)
       ·rw [if_neg c95] at H
        have c95b0 : decide (a1_0 < 3) = false := decide_eq_false c95
        clear c95
        replace H := Option.bind_eq_some_iff.mp H
        obtain ⟨t168, A1500, H⟩ := H
        replace H : (if t168 = true then (some (t160, t161, t162, t163, x165004_46, a1_5, t151, t152, t153, t154, 0)) else (some (0, 0, 0, 0, (⟨#[]⟩ : ByteArray), (⟨#[]⟩ : ByteArray), 0, 0, 0, 0, 50))) = some (r1, r2, r3, r4, r5, r6, r7, r8, r9, r10, r11) := H
        have A150 := Aside0.mk A1500
        clear A1500
        by_cases c151 : t168 = true
        ·subst c151
         have H1 : (some (t160, t161, t162, t163, x165004_46, a1_5, t151, t152, t153, t154, 0)) = some (r1, r2, r3, r4, r5, r6, r7, r8, r9, r10, r11) := by rw [if_pos rfl] at H; exact H
         clear H
         have H := H1
         clear H1
         simp only [Option.some.injEq, Prod.mk.injEq] at H
         obtain ⟨rfl, rfl, rfl, rfl, rfl, rfl, rfl, rfl, rfl, rfl, rfl⟩ := H
         have hnb152 := NB146_145.out
         have hnc152 := NB145_146.out
         have hnb153 := NB146_147.out
         have hnc153 := NB147_146.out
         have hnb154 := NB146_148.out
         have hnc154 := NB148_146.out
         have hnb155 := NB146_155.out
         have hnc155 := NB155_146.out
         have hnb156 := NB146_164.out
         have hnc156 := NB164_146.out
         have hcz157_0 : wc.cell? ⟨gb146, 0, none⟩ = some (.int .i64 a1_0) := (blk_cell BK146.out 0).trans rfl
         have hcz157_1 : wc.cell? ⟨gb146, 1, none⟩ = some (.int .i64 a1_1) := (blk_cell BK146.out 1).trans rfl
         have hcz157_2 : wc.cell? ⟨gb146, 2, none⟩ = some (.int .i64 a1_2) := (blk_cell BK146.out 2).trans rfl
         have hcz157_3 : wc.cell? ⟨gb146, 3, none⟩ = some (.int .i64 a1_3) := (blk_cell BK146.out 3).trans rfl
         have hcz157_4 : wc.cell? ⟨gb146, 4, none⟩ = some (.string a1_4) := (blk_cell BK146.out 4).trans rfl
         have hcz157_5 : wc.cell? ⟨gb146, 5, none⟩ = some (.string a1_5) := (blk_cell BK146.out 5).trans rfl
         have hfz157_0 := blk_frozen BK146.out 0
         have hfz157_1 := blk_frozen BK146.out 1
         have hfz157_2 := blk_frozen BK146.out 2
         have hfz157_3 := blk_frozen BK146.out 3
         have hfz157_4 := blk_frozen BK146.out 4
         have hfz157_5 := blk_frozen BK146.out 5
         have hnb158 := NB164_145.out
         have hnc158 := NB145_164.out
         have hnb159 := NB164_147.out
         have hnc159 := NB147_164.out
         have hnb160 := NB164_148.out
         have hnc160 := NB148_164.out
         have hnb161 := NB164_155.out
         have hnc161 := NB155_164.out
         have hcz162_0 : wc.cell? ⟨gb164, 0, none⟩ = some (.int .i64 t160) := (blk_cell BK164.out 0).trans rfl
         have hcz162_1 : wc.cell? ⟨gb164, 1, none⟩ = some (.int .i64 t161) := (blk_cell BK164.out 1).trans rfl
         have hcz162_2 : wc.cell? ⟨gb164, 2, none⟩ = some (.int .i64 t162) := (blk_cell BK164.out 2).trans rfl
         have hcz162_3 : wc.cell? ⟨gb164, 3, none⟩ = some (.int .i64 t163) := (blk_cell BK164.out 3).trans rfl
         have hcz162_4 : wc.cell? ⟨gb164, 4, none⟩ = some (.string x165004_46) := (blk_cell BK164.out 4).trans rfl
         have hcz162_5 : wc.cell? ⟨gb164, 5, none⟩ = some (.string a1_5) := (blk_cell BK164.out 5).trans rfl
         have hfz162_0 := blk_frozen BK164.out 0
         have hfz162_1 := blk_frozen BK164.out 1
         have hfz162_2 := blk_frozen BK164.out 2
         have hfz162_3 := blk_frozen BK164.out 3
         have hfz162_4 := blk_frozen BK164.out 4
         have hfz162_5 := blk_frozen BK164.out 5
         try go_wp2_with (first | ((with_reducible refine gate_callee (f := 11) rfl ?_); refine goesL_ (some 69) rfl rfl Tryd.func11 (by kernel_rfl) rfl #[.agg #[.int .i64 t160, .int .i64 t161, .int .i64 t162, .int .i64 t163, .string x165004_46, .string a1_5]] rfl (by (try simp only [List.map_toArray, List.map_cons, List.map_nil]); first | done | rfl | (simp only [List.length_drop, List.length_take]; rfl)) ?_; (with_reducible refine (weld_Valid.calls kj46 t160 t161 t162 t163 x165004_46 a1_5 true _ ?side1 A150.out).mono ?_); (case side1 => first | (with_reducible exact HG.out) | exact Glob.Globs_below HG.out (by repeat (first | (with_reducible first | exact HB.out | apply below_alloc | apply pw_below_drewN | apply below_drew1 | refine below_set ?_ GE145.out | refine below_set ?_ GE146.out | refine below_set ?_ GE147.out | refine below_set ?_ GE148.out | refine below_set ?_ GE155.out | refine below_set ?_ GE164.out) | exact HB.out))); rintro e w163 ⟨rfl, hb⟩; refine ⟨_, rfl, ?_⟩; have n0_ := Aside0.mk (blk_below (g := gb145) (o := .cells #[.int .i64 a0_0, .int .i64 a0_1, .int .i64 a0_2, .int .i64 a0_3, .string a0_4, .string a0_5] 26 (0, 0)) (by (with_reducible repeat (first | refine blk_drewN ?_ _ | refine blk_drew ?_ | refine blk_alloc ?_ _)); exact BK145.out) hb); have n1_ := Aside0.mk (blk_below (g := gb146) (o := .cells #[.int .i64 a1_0, .int .i64 a1_1, .int .i64 a1_2, .int .i64 a1_3, .string a1_4, .string a1_5] 26 (0, 0)) (by (with_reducible repeat (first | refine blk_drewN ?_ _ | refine blk_drew ?_ | refine blk_alloc ?_ _)); exact BK146.out) hb); have n2_ := Aside0.mk (blk_below (g := gb147) (o := .cells #[.int .i64 0, .int .i64 0, .int .i64 0, .int .i64 0, .string (⟨#[]⟩ : ByteArray), .string (⟨#[]⟩ : ByteArray)] 26 (0, 0)) (by (with_reducible repeat (first | refine blk_drewN ?_ _ | refine blk_drew ?_ | refine blk_alloc ?_ _)); exact BK147.out) hb); have n3_ := Aside0.mk (blk_below (g := gb148) (o := .cells #[.int .i64 0, .int .i64 0, .int .i64 0, .int .i64 0] 24 (0, 0)) (by (with_reducible repeat (first | refine blk_drewN ?_ _ | refine blk_drew ?_ | refine blk_alloc ?_ _)); exact BK148.out) hb); have n4_ := Aside0.mk (blk_below (g := gb155) (o := .cells #[.int .i64 t151, .int .i64 t152, .int .i64 t153, .int .i64 t154] 24 (0, 0)) (by (with_reducible repeat (first | refine blk_drewN ?_ _ | refine blk_drew ?_ | refine blk_alloc ?_ _)); exact BK155.out) hb); have n5_ := Aside0.mk (blk_below (g := gb164) (o := .cells #[.int .i64 t160, .int .i64 t161, .int .i64 t162, .int .i64 t163, .string x165004_46, .string a1_5] 26 (0, 0)) (by (with_reducible repeat (first | refine blk_drewN ?_ _ | refine blk_drew ?_ | refine blk_alloc ?_ _)); exact BK164.out) hb); have n6_ := Aside0.mk (below_step (by repeat (first | (with_reducible first | exact HB.out | apply below_alloc | apply pw_below_drewN | apply below_drew1 | refine below_set ?_ GE145.out | refine below_set ?_ GE146.out | refine below_set ?_ GE147.out | refine below_set ?_ GE148.out | refine below_set ?_ GE155.out | refine below_set ?_ GE164.out) | exact HB.out)) hb); clear BK145; clear BK146; clear BK147; clear BK148; clear BK155; clear BK164; clear HB; have BK145 := n0_; have BK146 := n1_; have BK147 := n2_; have BK148 := n3_; have BK155 := n4_; have BK164 := n5_; have HB := n6_; clear n0_ n1_ n2_ n3_ n4_ n5_ n6_; (try clear hb); (try clear hb2); (try clear hk); (try clear hi)))
         have n0_ := Aside0.mk (blk_drew BK145.out)
         have n1_ := Aside0.mk (blk_drew BK146.out)
         have n2_ := Aside0.mk (blk_drew BK147.out)
         have n3_ := Aside0.mk (blk_drew BK148.out)
         have n4_ := Aside0.mk (blk_drew BK155.out)
         have n5_ := Aside0.mk (blk_drew BK164.out)
         have n6_ := Aside0.mk (below_drew1 HB.out)
         clear BK145
         clear BK146
         clear BK147
         clear BK148
         clear BK155
         clear BK164
         clear HB
         have BK145 := n0_
         have BK146 := n1_
         have BK147 := n2_
         have BK148 := n3_
         have BK155 := n4_
         have BK164 := n5_
         have HB := n6_
         clear n0_ n1_ n2_ n3_ n4_ n5_ n6_
         refine start_ (n := 5) (S := fun w' => w'.cell? ⟨gb164, 0, none⟩ = some (.int .i64 t160) ∧ w'.cell? ⟨gb164, 1, none⟩ = some (.int .i64 t161) ∧ w'.cell? ⟨gb164, 2, none⟩ = some (.int .i64 t162) ∧ w'.cell? ⟨gb164, 3, none⟩ = some (.int .i64 t163) ∧ w'.cell? ⟨gb164, 4, none⟩ = some (.string x165004_46) ∧ w'.cell? ⟨gb164, 5, none⟩ = some (.string a1_5) ∧ w'.cell? ⟨gb155, 0, none⟩ = some (.int .i64 t151) ∧ w'.cell? ⟨gb155, 1, none⟩ = some (.int .i64 t152) ∧ w'.cell? ⟨gb155, 2, none⟩ = some (.int .i64 t153) ∧ w'.cell? ⟨gb155, 3, none⟩ = some (.int .i64 t154)) (ds := []) #[false, false, false, false, false] (by kernel_rfl) rfl rfl ⟨(blk_cell BK164.out 0).trans rfl, (blk_cell BK164.out 1).trans rfl, (blk_cell BK164.out 2).trans rfl, (blk_cell BK164.out 3).trans rfl, (blk_cell BK164.out 4).trans rfl, (blk_cell BK164.out 5).trans rfl, (blk_cell BK155.out 0).trans rfl, (blk_cell BK155.out 1).trans rfl, (blk_cell BK155.out 2).trans rfl, (blk_cell BK155.out 3).trans rfl⟩ (fun hHeld => ?_)
         generalize w163.drew = w164 at BK145 BK146 BK147 BK148 BK155 BK164 HB hHeld ⊢
         refine take_ (i := 0) (N := some 73) (v := ?_) (a' := ?_) #[true, false, false, false, false] rfl rfl (by kernel_rfl) (fun _ _ _ h => h) (Or.inl ⟨by rfl, ?_⟩) hHeld ?_ ?_
         rotate_left
         ·rintro w' ⟨s0, s1, s2, s3, s4, s5, s6, s7, s8, s9⟩
          go_simp
          with_reducible rfl
         rotate_left
         ·simp only [Act.put, List.setIfInBounds_toArray, List.set_cons_zero, List.set_cons_succ, i64_w, i32_w]
          rfl
         refine take_ (i := 1) (N := some 74) (v := ?_) (a' := ?_) #[true, true, false, false, false] rfl rfl (by kernel_rfl) (fun _ _ _ h => h) (Or.inl ⟨by rfl, ?_⟩) hHeld ?_ ?_
         rotate_left
         ·rintro w' ⟨s0, s1, s2, s3, s4, s5, s6, s7, s8, s9⟩
          go_simp
          with_reducible rfl
         rotate_left
         ·simp only [Act.put, List.setIfInBounds_toArray, List.set_cons_zero, List.set_cons_succ, i64_w, i32_w]
          rfl
         refine one_ (i := 2) (N := none) #[true, true, true, false, false] rfl rfl (by kernel_rfl) (by decide) (fun K hK => ?_)
         have hs165 : w164.cell? ⟨gb147, 0, none⟩ = some (.int .i64 0) := (blk_cell BK147.out 0).trans rfl
         have hfs165 := blk_frozen BK147.out 0
         have hns165_0 := NB145_147.out
         have hns165_1 := NB146_147.out
         have hns165_3 := NB148_147.out
         have hns165_4 := NB155_147.out
         have hns165_5 := NB164_147.out
         have hms165_0 := NB147_145.out
         have hms165_1 := NB147_146.out
         have hms165_3 := NB147_148.out
         have hms165_4 := NB147_155.out
         have hms165_5 := NB147_164.out
         have hs166 : w164.cell? ⟨gb147, 1, none⟩ = some (.int .i64 0) := (blk_cell BK147.out 1).trans rfl
         have hfs166 := blk_frozen BK147.out 1
         have hns166_0 := NB145_147.out
         have hns166_1 := NB146_147.out
         have hns166_3 := NB148_147.out
         have hns166_4 := NB155_147.out
         have hns166_5 := NB164_147.out
         have hms166_0 := NB147_145.out
         have hms166_1 := NB147_146.out
         have hms166_3 := NB147_148.out
         have hms166_4 := NB147_155.out
         have hms166_5 := NB147_164.out
         have hs167 : w164.cell? ⟨gb147, 2, none⟩ = some (.int .i64 0) := (blk_cell BK147.out 2).trans rfl
         have hfs167 := blk_frozen BK147.out 2
         have hns167_0 := NB145_147.out
         have hns167_1 := NB146_147.out
         have hns167_3 := NB148_147.out
         have hns167_4 := NB155_147.out
         have hns167_5 := NB164_147.out
         have hms167_0 := NB147_145.out
         have hms167_1 := NB147_146.out
         have hms167_3 := NB147_148.out
         have hms167_4 := NB147_155.out
         have hms167_5 := NB147_164.out
         have hs168 : w164.cell? ⟨gb147, 3, none⟩ = some (.int .i64 0) := (blk_cell BK147.out 3).trans rfl
         have hfs168 := blk_frozen BK147.out 3
         have hns168_0 := NB145_147.out
         have hns168_1 := NB146_147.out
         have hns168_3 := NB148_147.out
         have hns168_4 := NB155_147.out
         have hns168_5 := NB164_147.out
         have hms168_0 := NB147_145.out
         have hms168_1 := NB147_146.out
         have hms168_3 := NB147_148.out
         have hms168_4 := NB147_155.out
         have hms168_5 := NB147_164.out
         have hs169 : w164.cell? ⟨gb147, 4, none⟩ = some (.string (⟨#[]⟩ : ByteArray)) := (blk_cell BK147.out 4).trans rfl
         have hfs169 := blk_frozen BK147.out 4
         have hns169_0 := NB145_147.out
         have hns169_1 := NB146_147.out
         have hns169_3 := NB148_147.out
         have hns169_4 := NB155_147.out
         have hns169_5 := NB164_147.out
         have hms169_0 := NB147_145.out
         have hms169_1 := NB147_146.out
         have hms169_3 := NB147_148.out
         have hms169_4 := NB147_155.out
         have hms169_5 := NB147_164.out
         have hs170 : w164.cell? ⟨gb147, 5, none⟩ = some (.string (⟨#[]⟩ : ByteArray)) := (blk_cell BK147.out 5).trans rfl
         have hfs170 := blk_frozen BK147.out 5
         have hns170_0 := NB145_147.out
         have hns170_1 := NB146_147.out
         have hns170_3 := NB148_147.out
         have hns170_4 := NB155_147.out
         have hns170_5 := NB164_147.out
         have hms170_0 := NB147_145.out
         have hms170_1 := NB147_146.out
         have hms170_3 := NB147_148.out
         have hms170_4 := NB147_155.out
         have hms170_5 := NB147_164.out
         refine skip_ (w1 := ?_) (by rfl) rfl ?_ ?_
         rotate_left
         ·go_simp
          rfl
         refine hK.out _ _ ⟨((cell_far (p := ⟨gb147, _, none⟩) NB164_147.out _).trans (((cell_far (p := ⟨gb147, _, none⟩) NB164_147.out _).trans (((cell_far (p := ⟨gb147, _, none⟩) NB164_147.out _).trans (((cell_far (p := ⟨gb147, _, none⟩) NB164_147.out _).trans (((cell_far (p := ⟨gb147, _, none⟩) NB164_147.out _).trans (((cell_far (p := ⟨gb147, _, none⟩) NB164_147.out _).trans (hHeld.1)))))))))))), ((cell_far (p := ⟨gb147, _, none⟩) NB164_147.out _).trans (((cell_far (p := ⟨gb147, _, none⟩) NB164_147.out _).trans (((cell_far (p := ⟨gb147, _, none⟩) NB164_147.out _).trans (((cell_far (p := ⟨gb147, _, none⟩) NB164_147.out _).trans (((cell_far (p := ⟨gb147, _, none⟩) NB164_147.out _).trans (((cell_far (p := ⟨gb147, _, none⟩) NB164_147.out _).trans (hHeld.2.1)))))))))))), ((cell_far (p := ⟨gb147, _, none⟩) NB164_147.out _).trans (((cell_far (p := ⟨gb147, _, none⟩) NB164_147.out _).trans (((cell_far (p := ⟨gb147, _, none⟩) NB164_147.out _).trans (((cell_far (p := ⟨gb147, _, none⟩) NB164_147.out _).trans (((cell_far (p := ⟨gb147, _, none⟩) NB164_147.out _).trans (((cell_far (p := ⟨gb147, _, none⟩) NB164_147.out _).trans (hHeld.2.2.1)))))))))))), ((cell_far (p := ⟨gb147, _, none⟩) NB164_147.out _).trans (((cell_far (p := ⟨gb147, _, none⟩) NB164_147.out _).trans (((cell_far (p := ⟨gb147, _, none⟩) NB164_147.out _).trans (((cell_far (p := ⟨gb147, _, none⟩) NB164_147.out _).trans (((cell_far (p := ⟨gb147, _, none⟩) NB164_147.out _).trans (((cell_far (p := ⟨gb147, _, none⟩) NB164_147.out _).trans (hHeld.2.2.2.1)))))))))))), ((cell_far (p := ⟨gb147, _, none⟩) NB164_147.out _).trans (((cell_far (p := ⟨gb147, _, none⟩) NB164_147.out _).trans (((cell_far (p := ⟨gb147, _, none⟩) NB164_147.out _).trans (((cell_far (p := ⟨gb147, _, none⟩) NB164_147.out _).trans (((cell_far (p := ⟨gb147, _, none⟩) NB164_147.out _).trans (((cell_far (p := ⟨gb147, _, none⟩) NB164_147.out _).trans (hHeld.2.2.2.2.1)))))))))))), ((cell_far (p := ⟨gb147, _, none⟩) NB164_147.out _).trans (((cell_far (p := ⟨gb147, _, none⟩) NB164_147.out _).trans (((cell_far (p := ⟨gb147, _, none⟩) NB164_147.out _).trans (((cell_far (p := ⟨gb147, _, none⟩) NB164_147.out _).trans (((cell_far (p := ⟨gb147, _, none⟩) NB164_147.out _).trans (((cell_far (p := ⟨gb147, _, none⟩) NB164_147.out _).trans (hHeld.2.2.2.2.2.1)))))))))))), ((cell_far (p := ⟨gb147, _, none⟩) NB155_147.out _).trans (((cell_far (p := ⟨gb147, _, none⟩) NB155_147.out _).trans (((cell_far (p := ⟨gb147, _, none⟩) NB155_147.out _).trans (((cell_far (p := ⟨gb147, _, none⟩) NB155_147.out _).trans (((cell_far (p := ⟨gb147, _, none⟩) NB155_147.out _).trans (((cell_far (p := ⟨gb147, _, none⟩) NB155_147.out _).trans (hHeld.2.2.2.2.2.2.1)))))))))))), ((cell_far (p := ⟨gb147, _, none⟩) NB155_147.out _).trans (((cell_far (p := ⟨gb147, _, none⟩) NB155_147.out _).trans (((cell_far (p := ⟨gb147, _, none⟩) NB155_147.out _).trans (((cell_far (p := ⟨gb147, _, none⟩) NB155_147.out _).trans (((cell_far (p := ⟨gb147, _, none⟩) NB155_147.out _).trans (((cell_far (p := ⟨gb147, _, none⟩) NB155_147.out _).trans (hHeld.2.2.2.2.2.2.2.1)))))))))))), ((cell_far (p := ⟨gb147, _, none⟩) NB155_147.out _).trans (((cell_far (p := ⟨gb147, _, none⟩) NB155_147.out _).trans (((cell_far (p := ⟨gb147, _, none⟩) NB155_147.out _).trans (((cell_far (p := ⟨gb147, _, none⟩) NB155_147.out _).trans (((cell_far (p := ⟨gb147, _, none⟩) NB155_147.out _).trans (((cell_far (p := ⟨gb147, _, none⟩) NB155_147.out _).trans (hHeld.2.2.2.2.2.2.2.2.1)))))))))))), ((cell_far (p := ⟨gb147, _, none⟩) NB155_147.out _).trans (((cell_far (p := ⟨gb147, _, none⟩) NB155_147.out _).trans (((cell_far (p := ⟨gb147, _, none⟩) NB155_147.out _).trans (((cell_far (p := ⟨gb147, _, none⟩) NB155_147.out _).trans (((cell_far (p := ⟨gb147, _, none⟩) NB155_147.out _).trans (((cell_far (p := ⟨gb147, _, none⟩) NB155_147.out _).trans (hHeld.2.2.2.2.2.2.2.2.2))))))))))))⟩ (fun hHeld => ?_)
         clear hK K
         refine one_ (i := 3) (N := none) #[true, true, true, true, false] rfl rfl (by kernel_rfl) (by decide) (fun K hK => ?_)
         have hs171 : w164.cell? ⟨gb148, 0, none⟩ = some (.int .i64 0) := (blk_cell BK148.out 0).trans rfl
         have hfs171 := blk_frozen BK148.out 0
         have hns171_0 := NB145_148.out
         have hns171_1 := NB146_148.out
         have hns171_2 := NB147_148.out
         have hns171_4 := NB155_148.out
         have hns171_5 := NB164_148.out
         have hms171_0 := NB148_145.out
         have hms171_1 := NB148_146.out
         have hms171_2 := NB148_147.out
         have hms171_4 := NB148_155.out
         have hms171_5 := NB148_164.out
         have hs172 : w164.cell? ⟨gb148, 1, none⟩ = some (.int .i64 0) := (blk_cell BK148.out 1).trans rfl
         have hfs172 := blk_frozen BK148.out 1
         have hns172_0 := NB145_148.out
         have hns172_1 := NB146_148.out
         have hns172_2 := NB147_148.out
         have hns172_4 := NB155_148.out
         have hns172_5 := NB164_148.out
         have hms172_0 := NB148_145.out
         have hms172_1 := NB148_146.out
         have hms172_2 := NB148_147.out
         have hms172_4 := NB148_155.out
         have hms172_5 := NB148_164.out
         have hs173 : w164.cell? ⟨gb148, 2, none⟩ = some (.int .i64 0) := (blk_cell BK148.out 2).trans rfl
         have hfs173 := blk_frozen BK148.out 2
         have hns173_0 := NB145_148.out
         have hns173_1 := NB146_148.out
         have hns173_2 := NB147_148.out
         have hns173_4 := NB155_148.out
         have hns173_5 := NB164_148.out
         have hms173_0 := NB148_145.out
         have hms173_1 := NB148_146.out
         have hms173_2 := NB148_147.out
         have hms173_4 := NB148_155.out
         have hms173_5 := NB148_164.out
         have hs174 : w164.cell? ⟨gb148, 3, none⟩ = some (.int .i64 0) := (blk_cell BK148.out 3).trans rfl
         have hfs174 := blk_frozen BK148.out 3
         have hns174_0 := NB145_148.out
         have hns174_1 := NB146_148.out
         have hns174_2 := NB147_148.out
         have hns174_4 := NB155_148.out
         have hns174_5 := NB164_148.out
         have hms174_0 := NB148_145.out
         have hms174_1 := NB148_146.out
         have hms174_2 := NB148_147.out
         have hms174_4 := NB148_155.out
         have hms174_5 := NB148_164.out
         refine skip_ (w1 := ?_) (by rfl) rfl ?_ ?_
         rotate_left
         ·go_simp
          rfl
         refine hK.out _ _ ⟨((cell_far (p := ⟨gb148, _, none⟩) NB164_148.out _).trans (((cell_far (p := ⟨gb148, _, none⟩) NB164_148.out _).trans (((cell_far (p := ⟨gb148, _, none⟩) NB164_148.out _).trans (((cell_far (p := ⟨gb148, _, none⟩) NB164_148.out _).trans (hHeld.1)))))))), ((cell_far (p := ⟨gb148, _, none⟩) NB164_148.out _).trans (((cell_far (p := ⟨gb148, _, none⟩) NB164_148.out _).trans (((cell_far (p := ⟨gb148, _, none⟩) NB164_148.out _).trans (((cell_far (p := ⟨gb148, _, none⟩) NB164_148.out _).trans (hHeld.2.1)))))))), ((cell_far (p := ⟨gb148, _, none⟩) NB164_148.out _).trans (((cell_far (p := ⟨gb148, _, none⟩) NB164_148.out _).trans (((cell_far (p := ⟨gb148, _, none⟩) NB164_148.out _).trans (((cell_far (p := ⟨gb148, _, none⟩) NB164_148.out _).trans (hHeld.2.2.1)))))))), ((cell_far (p := ⟨gb148, _, none⟩) NB164_148.out _).trans (((cell_far (p := ⟨gb148, _, none⟩) NB164_148.out _).trans (((cell_far (p := ⟨gb148, _, none⟩) NB164_148.out _).trans (((cell_far (p := ⟨gb148, _, none⟩) NB164_148.out _).trans (hHeld.2.2.2.1)))))))), ((cell_far (p := ⟨gb148, _, none⟩) NB164_148.out _).trans (((cell_far (p := ⟨gb148, _, none⟩) NB164_148.out _).trans (((cell_far (p := ⟨gb148, _, none⟩) NB164_148.out _).trans (((cell_far (p := ⟨gb148, _, none⟩) NB164_148.out _).trans (hHeld.2.2.2.2.1)))))))), ((cell_far (p := ⟨gb148, _, none⟩) NB164_148.out _).trans (((cell_far (p := ⟨gb148, _, none⟩) NB164_148.out _).trans (((cell_far (p := ⟨gb148, _, none⟩) NB164_148.out _).trans (((cell_far (p := ⟨gb148, _, none⟩) NB164_148.out _).trans (hHeld.2.2.2.2.2.1)))))))), ((cell_far (p := ⟨gb148, _, none⟩) NB155_148.out _).trans (((cell_far (p := ⟨gb148, _, none⟩) NB155_148.out _).trans (((cell_far (p := ⟨gb148, _, none⟩) NB155_148.out _).trans (((cell_far (p := ⟨gb148, _, none⟩) NB155_148.out _).trans (hHeld.2.2.2.2.2.2.1)))))))), ((cell_far (p := ⟨gb148, _, none⟩) NB155_148.out _).trans (((cell_far (p := ⟨gb148, _, none⟩) NB155_148.out _).trans (((cell_far (p := ⟨gb148, _, none⟩) NB155_148.out _).trans (((cell_far (p := ⟨gb148, _, none⟩) NB155_148.out _).trans (hHeld.2.2.2.2.2.2.2.1)))))))), ((cell_far (p := ⟨gb148, _, none⟩) NB155_148.out _).trans (((cell_far (p := ⟨gb148, _, none⟩) NB155_148.out _).trans (((cell_far (p := ⟨gb148, _, none⟩) NB155_148.out _).trans (((cell_far (p := ⟨gb148, _, none⟩) NB155_148.out _).trans (hHeld.2.2.2.2.2.2.2.2.1)))))))), ((cell_far (p := ⟨gb148, _, none⟩) NB155_148.out _).trans (((cell_far (p := ⟨gb148, _, none⟩) NB155_148.out _).trans (((cell_far (p := ⟨gb148, _, none⟩) NB155_148.out _).trans (((cell_far (p := ⟨gb148, _, none⟩) NB155_148.out _).trans (hHeld.2.2.2.2.2.2.2.2.2))))))))⟩ (fun hHeld => ?_)
         clear hK K
         refine pure_ (i := 4) (N := some 6) (v := ?_) (a' := ?_) #[true, true, true, true, true] rfl rfl (by kernel_rfl) (fun _ _ _ h => h) (Or.inl ⟨by rfl, ?_⟩) ?_ ?_
         rotate_left
         ·intro w'
          go_simp
          with_reducible rfl
         rotate_left
         ·simp only [Act.put, List.setIfInBounds_toArray, List.set_cons_zero, List.set_cons_succ, i64_w, i32_w]
          rfl
         refine done_ (by kernel_rfl) ?_
         try go_wp2
         refine bodyPost_ret (results_list (rs := [.cell 4 26, .cell 5 24, .tmp 6]) rfl (by simp) (.cell gb147 26 #[.int .i64 t160, .int .i64 t161, .int .i64 t162, .int .i64 t163, .string x165004_46, .string a1_5] (0, 0) _ rfl (by (with_reducible repeat (first | refine blk_drewN ?_ _ | refine blk_drew ?_ | refine blk_alloc ?_ _)); refine blk_far ?_ NB147_148.out _; (with_reducible repeat (first | refine blk_drewN ?_ _ | refine blk_drew ?_ | refine blk_alloc ?_ _)); refine blk_far ?_ NB147_148.out _; (with_reducible repeat (first | refine blk_drewN ?_ _ | refine blk_drew ?_ | refine blk_alloc ?_ _)); refine blk_far ?_ NB147_148.out _; (with_reducible repeat (first | refine blk_drewN ?_ _ | refine blk_drew ?_ | refine blk_alloc ?_ _)); refine blk_far ?_ NB147_148.out _; (with_reducible repeat (first | refine blk_drewN ?_ _ | refine blk_drew ?_ | refine blk_alloc ?_ _)); refine blk_put (cs := #[.int .i64 t160, .int .i64 t161, .int .i64 t162, .int .i64 t163, .string x165004_46, .string (⟨#[]⟩ : ByteArray)]) ?_ 5 _ rfl; (with_reducible repeat (first | refine blk_drewN ?_ _ | refine blk_drew ?_ | refine blk_alloc ?_ _)); refine blk_put (cs := #[.int .i64 t160, .int .i64 t161, .int .i64 t162, .int .i64 t163, .string (⟨#[]⟩ : ByteArray), .string (⟨#[]⟩ : ByteArray)]) ?_ 4 _ rfl; (with_reducible repeat (first | refine blk_drewN ?_ _ | refine blk_drew ?_ | refine blk_alloc ?_ _)); refine blk_put (cs := #[.int .i64 t160, .int .i64 t161, .int .i64 t162, .int .i64 0, .string (⟨#[]⟩ : ByteArray), .string (⟨#[]⟩ : ByteArray)]) ?_ 3 _ rfl; (with_reducible repeat (first | refine blk_drewN ?_ _ | refine blk_drew ?_ | refine blk_alloc ?_ _)); refine blk_put (cs := #[.int .i64 t160, .int .i64 t161, .int .i64 0, .int .i64 0, .string (⟨#[]⟩ : ByteArray), .string (⟨#[]⟩ : ByteArray)]) ?_ 2 _ rfl; (with_reducible repeat (first | refine blk_drewN ?_ _ | refine blk_drew ?_ | refine blk_alloc ?_ _)); refine blk_put (cs := #[.int .i64 t160, .int .i64 0, .int .i64 0, .int .i64 0, .string (⟨#[]⟩ : ByteArray), .string (⟨#[]⟩ : ByteArray)]) ?_ 1 _ rfl; (with_reducible repeat (first | refine blk_drewN ?_ _ | refine blk_drew ?_ | refine blk_alloc ?_ _)); refine blk_put (cs := #[.int .i64 0, .int .i64 0, .int .i64 0, .int .i64 0, .string (⟨#[]⟩ : ByteArray), .string (⟨#[]⟩ : ByteArray)]) ?_ 0 _ rfl; (with_reducible repeat (first | refine blk_drewN ?_ _ | refine blk_drew ?_ | refine blk_alloc ?_ _)); exact BK147.out) Tryd.underlying26 rfl (by kernel_rfl) (.cell gb148 24 #[.int .i64 t151, .int .i64 t152, .int .i64 t153, .int .i64 t154] (0, 0) _ rfl (by (with_reducible repeat (first | refine blk_drewN ?_ _ | refine blk_drew ?_ | refine blk_alloc ?_ _)); refine blk_put (cs := #[.int .i64 t151, .int .i64 t152, .int .i64 t153, .int .i64 0]) ?_ 3 _ rfl; (with_reducible repeat (first | refine blk_drewN ?_ _ | refine blk_drew ?_ | refine blk_alloc ?_ _)); refine blk_put (cs := #[.int .i64 t151, .int .i64 t152, .int .i64 0, .int .i64 0]) ?_ 2 _ rfl; (with_reducible repeat (first | refine blk_drewN ?_ _ | refine blk_drew ?_ | refine blk_alloc ?_ _)); refine blk_put (cs := #[.int .i64 t151, .int .i64 0, .int .i64 0, .int .i64 0]) ?_ 1 _ rfl; (with_reducible repeat (first | refine blk_drewN ?_ _ | refine blk_drew ?_ | refine blk_alloc ?_ _)); refine blk_put (cs := #[.int .i64 0, .int .i64 0, .int .i64 0, .int .i64 0]) ?_ 0 _ rfl; (with_reducible repeat (first | refine blk_drewN ?_ _ | refine blk_drew ?_ | refine blk_alloc ?_ _)); refine blk_far ?_ NB148_147.out _; (with_reducible repeat (first | refine blk_drewN ?_ _ | refine blk_drew ?_ | refine blk_alloc ?_ _)); refine blk_far ?_ NB148_147.out _; (with_reducible repeat (first | refine blk_drewN ?_ _ | refine blk_drew ?_ | refine blk_alloc ?_ _)); refine blk_far ?_ NB148_147.out _; (with_reducible repeat (first | refine blk_drewN ?_ _ | refine blk_drew ?_ | refine blk_alloc ?_ _)); refine blk_far ?_ NB148_147.out _; (with_reducible repeat (first | refine blk_drewN ?_ _ | refine blk_drew ?_ | refine blk_alloc ?_ _)); refine blk_far ?_ NB148_147.out _; (with_reducible repeat (first | refine blk_drewN ?_ _ | refine blk_drew ?_ | refine blk_alloc ?_ _)); refine blk_far ?_ NB148_147.out _; (with_reducible repeat (first | refine blk_drewN ?_ _ | refine blk_drew ?_ | refine blk_alloc ?_ _)); exact BK148.out) Tryd.underlying24 rfl (by kernel_rfl) (.tmp .nil)))) rfl ?_
         exact ⟨by first | rfl | (simp [*] <;> rfl), by repeat (first | (with_reducible first | exact HB.out | apply below_alloc | apply pw_below_drewN | apply below_drew1 | refine below_set ?_ GE145.out | refine below_set ?_ GE146.out | refine below_set ?_ GE147.out | refine below_set ?_ GE148.out | refine below_set ?_ GE155.out | refine below_set ?_ GE164.out) | exact HB.out)⟩
        ·replace c151 := Bool.eq_false_iff.mpr c151
         subst c151
         have H1 : (some (0, 0, 0, 0, (⟨#[]⟩ : ByteArray), (⟨#[]⟩ : ByteArray), 0, 0, 0, 0, 50)) = some (r1, r2, r3, r4, r5, r6, r7, r8, r9, r10, r11) := by rw [if_neg (show ¬ (false = true) by decide)] at H; exact H
         clear H
         have H := H1
         clear H1
         simp only [Option.some.injEq, Prod.mk.injEq] at H
         obtain ⟨rfl, rfl, rfl, rfl, rfl, rfl, rfl, rfl, rfl, rfl, rfl⟩ := H
         have hnb175 := NB146_145.out
         have hnc175 := NB145_146.out
         have hnb176 := NB146_147.out
         have hnc176 := NB147_146.out
         have hnb177 := NB146_148.out
         have hnc177 := NB148_146.out
         have hnb178 := NB146_155.out
         have hnc178 := NB155_146.out
         have hnb179 := NB146_164.out
         have hnc179 := NB164_146.out
         have hcz180_0 : wc.cell? ⟨gb146, 0, none⟩ = some (.int .i64 a1_0) := (blk_cell BK146.out 0).trans rfl
         have hcz180_1 : wc.cell? ⟨gb146, 1, none⟩ = some (.int .i64 a1_1) := (blk_cell BK146.out 1).trans rfl
         have hcz180_2 : wc.cell? ⟨gb146, 2, none⟩ = some (.int .i64 a1_2) := (blk_cell BK146.out 2).trans rfl
         have hcz180_3 : wc.cell? ⟨gb146, 3, none⟩ = some (.int .i64 a1_3) := (blk_cell BK146.out 3).trans rfl
         have hcz180_4 : wc.cell? ⟨gb146, 4, none⟩ = some (.string a1_4) := (blk_cell BK146.out 4).trans rfl
         have hcz180_5 : wc.cell? ⟨gb146, 5, none⟩ = some (.string a1_5) := (blk_cell BK146.out 5).trans rfl
         have hfz180_0 := blk_frozen BK146.out 0
         have hfz180_1 := blk_frozen BK146.out 1
         have hfz180_2 := blk_frozen BK146.out 2
         have hfz180_3 := blk_frozen BK146.out 3
         have hfz180_4 := blk_frozen BK146.out 4
         have hfz180_5 := blk_frozen BK146.out 5
         have hnb181 := NB164_145.out
         have hnc181 := NB145_164.out
         have hnb182 := NB164_147.out
         have hnc182 := NB147_164.out
         have hnb183 := NB164_148.out
         have hnc183 := NB148_164.out
         have hnb184 := NB164_155.out
         have hnc184 := NB155_164.out
         have hcz185_0 : wc.cell? ⟨gb164, 0, none⟩ = some (.int .i64 t160) := (blk_cell BK164.out 0).trans rfl
         have hcz185_1 : wc.cell? ⟨gb164, 1, none⟩ = some (.int .i64 t161) := (blk_cell BK164.out 1).trans rfl
         have hcz185_2 : wc.cell? ⟨gb164, 2, none⟩ = some (.int .i64 t162) := (blk_cell BK164.out 2).trans rfl
         have hcz185_3 : wc.cell? ⟨gb164, 3, none⟩ = some (.int .i64 t163) := (blk_cell BK164.out 3).trans rfl
         have hcz185_4 : wc.cell? ⟨gb164, 4, none⟩ = some (.string x165004_46) := (blk_cell BK164.out 4).trans rfl
         have hcz185_5 : wc.cell? ⟨gb164, 5, none⟩ = some (.string a1_5) := (blk_cell BK164.out 5).trans rfl
         have hfz185_0 := blk_frozen BK164.out 0
         have hfz185_1 := blk_frozen BK164.out 1
         have hfz185_2 := blk_frozen BK164.out 2
         have hfz185_3 := blk_frozen BK164.out 3
         have hfz185_4 := blk_frozen BK164.out 4
         have hfz185_5 := blk_frozen BK164.out 5
         go_wp2_with (first | ((with_reducible refine gate_callee (f := 11) rfl ?_); refine goesL_ (some 69) rfl rfl Tryd.func11 (by kernel_rfl) rfl #[.agg #[.int .i64 t160, .int .i64 t161, .int .i64 t162, .int .i64 t163, .string x165004_46, .string a1_5]] rfl (by (try simp only [List.map_toArray, List.map_cons, List.map_nil]); first | done | rfl | (simp only [List.length_drop, List.length_take]; rfl)) ?_; (with_reducible refine (weld_Valid.calls kj46 t160 t161 t162 t163 x165004_46 a1_5 false _ ?side1 A150.out).mono ?_); (case side1 => first | (with_reducible exact HG.out) | exact Glob.Globs_below HG.out (by repeat (first | (with_reducible first | exact HB.out | apply below_alloc | apply pw_below_drewN | apply below_drew1 | refine below_set ?_ GE145.out | refine below_set ?_ GE146.out | refine below_set ?_ GE147.out | refine below_set ?_ GE148.out | refine below_set ?_ GE155.out | refine below_set ?_ GE164.out) | exact HB.out))); rintro e w186 ⟨rfl, hb⟩; refine ⟨_, rfl, ?_⟩; have n0_ := Aside0.mk (blk_below (g := gb145) (o := .cells #[.int .i64 a0_0, .int .i64 a0_1, .int .i64 a0_2, .int .i64 a0_3, .string a0_4, .string a0_5] 26 (0, 0)) (by (with_reducible repeat (first | refine blk_drewN ?_ _ | refine blk_drew ?_ | refine blk_alloc ?_ _)); exact BK145.out) hb); have n1_ := Aside0.mk (blk_below (g := gb146) (o := .cells #[.int .i64 a1_0, .int .i64 a1_1, .int .i64 a1_2, .int .i64 a1_3, .string a1_4, .string a1_5] 26 (0, 0)) (by (with_reducible repeat (first | refine blk_drewN ?_ _ | refine blk_drew ?_ | refine blk_alloc ?_ _)); exact BK146.out) hb); have n2_ := Aside0.mk (blk_below (g := gb147) (o := .cells #[.int .i64 0, .int .i64 0, .int .i64 0, .int .i64 0, .string (⟨#[]⟩ : ByteArray), .string (⟨#[]⟩ : ByteArray)] 26 (0, 0)) (by (with_reducible repeat (first | refine blk_drewN ?_ _ | refine blk_drew ?_ | refine blk_alloc ?_ _)); exact BK147.out) hb); have n3_ := Aside0.mk (blk_below (g := gb148) (o := .cells #[.int .i64 0, .int .i64 0, .int .i64 0, .int .i64 0] 24 (0, 0)) (by (with_reducible repeat (first | refine blk_drewN ?_ _ | refine blk_drew ?_ | refine blk_alloc ?_ _)); exact BK148.out) hb); have n4_ := Aside0.mk (blk_below (g := gb155) (o := .cells #[.int .i64 t151, .int .i64 t152, .int .i64 t153, .int .i64 t154] 24 (0, 0)) (by (with_reducible repeat (first | refine blk_drewN ?_ _ | refine blk_drew ?_ | refine blk_alloc ?_ _)); exact BK155.out) hb); have n5_ := Aside0.mk (blk_below (g := gb164) (o := .cells #[.int .i64 t160, .int .i64 t161, .int .i64 t162, .int .i64 t163, .string x165004_46, .string a1_5] 26 (0, 0)) (by (with_reducible repeat (first | refine blk_drewN ?_ _ | refine blk_drew ?_ | refine blk_alloc ?_ _)); exact BK164.out) hb); have n6_ := Aside0.mk (below_step (by repeat (first | (with_reducible first | exact HB.out | apply below_alloc | apply pw_below_drewN | apply below_drew1 | refine below_set ?_ GE145.out | refine below_set ?_ GE146.out | refine below_set ?_ GE147.out | refine below_set ?_ GE148.out | refine below_set ?_ GE155.out | refine below_set ?_ GE164.out) | exact HB.out)) hb); clear BK145; clear BK146; clear BK147; clear BK148; clear BK155; clear BK164; clear HB; have BK145 := n0_; have BK146 := n1_; have BK147 := n2_; have BK148 := n3_; have BK155 := n4_; have BK164 := n5_; have HB := n6_; clear n0_ n1_ n2_ n3_ n4_ n5_ n6_; (try clear hb); (try clear hb2); (try clear hk); (try clear hi); have hnb187 := NB147_145.out; have hnc187 := NB145_147.out; have hnb188 := NB147_148.out; have hnc188 := NB148_147.out; have hnb189 := NB147_155.out; have hnc189 := NB155_147.out; have hcz190_0 : w186.cell? ⟨gb147, 0, none⟩ = some (.int .i64 0) := (blk_cell BK147.out 0).trans rfl; have hcz190_1 : w186.cell? ⟨gb147, 1, none⟩ = some (.int .i64 0) := (blk_cell BK147.out 1).trans rfl; have hcz190_2 : w186.cell? ⟨gb147, 2, none⟩ = some (.int .i64 0) := (blk_cell BK147.out 2).trans rfl; have hcz190_3 : w186.cell? ⟨gb147, 3, none⟩ = some (.int .i64 0) := (blk_cell BK147.out 3).trans rfl; have hcz190_4 : w186.cell? ⟨gb147, 4, none⟩ = some (.string (⟨#[]⟩ : ByteArray)) := (blk_cell BK147.out 4).trans rfl; have hcz190_5 : w186.cell? ⟨gb147, 5, none⟩ = some (.string (⟨#[]⟩ : ByteArray)) := (blk_cell BK147.out 5).trans rfl; have hfz190_0 := blk_frozen BK147.out 0; have hfz190_1 := blk_frozen BK147.out 1; have hfz190_2 := blk_frozen BK147.out 2; have hfz190_3 := blk_frozen BK147.out 3; have hfz190_4 := blk_frozen BK147.out 4; have hfz190_5 := blk_frozen BK147.out 5; have hnb191 := NB148_145.out; have hnc191 := NB145_148.out; have hnb192 := NB148_155.out; have hnc192 := NB155_148.out; have hcz193_0 : w186.cell? ⟨gb148, 0, none⟩ = some (.int .i64 0) := (blk_cell BK148.out 0).trans rfl; have hcz193_1 : w186.cell? ⟨gb148, 1, none⟩ = some (.int .i64 0) := (blk_cell BK148.out 1).trans rfl; have hcz193_2 : w186.cell? ⟨gb148, 2, none⟩ = some (.int .i64 0) := (blk_cell BK148.out 2).trans rfl; have hcz193_3 : w186.cell? ⟨gb148, 3, none⟩ = some (.int .i64 0) := (blk_cell BK148.out 3).trans rfl; have hfz193_0 := blk_frozen BK148.out 0; have hfz193_1 := blk_frozen BK148.out 1; have hfz193_2 := blk_frozen BK148.out 2; have hfz193_3 := blk_frozen BK148.out 3))
         refine bodyPost_ret (results_list (rs := [.cell 4 26, .cell 5 24, .tmp 6]) rfl (by simp) (.cell gb147 26 #[.int .i64 0, .int .i64 0, .int .i64 0, .int .i64 0, .string (⟨#[]⟩ : ByteArray), .string (⟨#[]⟩ : ByteArray)] (0, 0) _ rfl (by (with_reducible repeat (first | refine blk_drewN ?_ _ | refine blk_drew ?_ | refine blk_alloc ?_ _)); refine blk_far ?_ NB147_148.out _; (with_reducible repeat (first | refine blk_drewN ?_ _ | refine blk_drew ?_ | refine blk_alloc ?_ _)); refine blk_far ?_ NB147_148.out _; (with_reducible repeat (first | refine blk_drewN ?_ _ | refine blk_drew ?_ | refine blk_alloc ?_ _)); refine blk_far ?_ NB147_148.out _; (with_reducible repeat (first | refine blk_drewN ?_ _ | refine blk_drew ?_ | refine blk_alloc ?_ _)); refine blk_far ?_ NB147_148.out _; (with_reducible repeat (first | refine blk_drewN ?_ _ | refine blk_drew ?_ | refine blk_alloc ?_ _)); refine blk_put (cs := #[.int .i64 0, .int .i64 0, .int .i64 0, .int .i64 0, .string (⟨#[]⟩ : ByteArray), .string (⟨#[]⟩ : ByteArray)]) ?_ 5 _ rfl; (with_reducible repeat (first | refine blk_drewN ?_ _ | refine blk_drew ?_ | refine blk_alloc ?_ _)); refine blk_put (cs := #[.int .i64 0, .int .i64 0, .int .i64 0, .int .i64 0, .string (⟨#[]⟩ : ByteArray), .string (⟨#[]⟩ : ByteArray)]) ?_ 4 _ rfl; (with_reducible repeat (first | refine blk_drewN ?_ _ | refine blk_drew ?_ | refine blk_alloc ?_ _)); refine blk_put (cs := #[.int .i64 0, .int .i64 0, .int .i64 0, .int .i64 0, .string (⟨#[]⟩ : ByteArray), .string (⟨#[]⟩ : ByteArray)]) ?_ 3 _ rfl; (with_reducible repeat (first | refine blk_drewN ?_ _ | refine blk_drew ?_ | refine blk_alloc ?_ _)); refine blk_put (cs := #[.int .i64 0, .int .i64 0, .int .i64 0, .int .i64 0, .string (⟨#[]⟩ : ByteArray), .string (⟨#[]⟩ : ByteArray)]) ?_ 2 _ rfl; (with_reducible repeat (first | refine blk_drewN ?_ _ | refine blk_drew ?_ | refine blk_alloc ?_ _)); refine blk_put (cs := #[.int .i64 0, .int .i64 0, .int .i64 0, .int .i64 0, .string (⟨#[]⟩ : ByteArray), .string (⟨#[]⟩ : ByteArray)]) ?_ 1 _ rfl; (with_reducible repeat (first | refine blk_drewN ?_ _ | refine blk_drew ?_ | refine blk_alloc ?_ _)); refine blk_put (cs := #[.int .i64 0, .int .i64 0, .int .i64 0, .int .i64 0, .string (⟨#[]⟩ : ByteArray), .string (⟨#[]⟩ : ByteArray)]) ?_ 0 _ rfl; (with_reducible repeat (first | refine blk_drewN ?_ _ | refine blk_drew ?_ | refine blk_alloc ?_ _)); exact BK147.out) Tryd.underlying26 rfl (by kernel_rfl) (.cell gb148 24 #[.int .i64 0, .int .i64 0, .int .i64 0, .int .i64 0] (0, 0) _ rfl (by (with_reducible repeat (first | refine blk_drewN ?_ _ | refine blk_drew ?_ | refine blk_alloc ?_ _)); refine blk_put (cs := #[.int .i64 0, .int .i64 0, .int .i64 0, .int .i64 0]) ?_ 3 _ rfl; (with_reducible repeat (first | refine blk_drewN ?_ _ | refine blk_drew ?_ | refine blk_alloc ?_ _)); refine blk_put (cs := #[.int .i64 0, .int .i64 0, .int .i64 0, .int .i64 0]) ?_ 2 _ rfl; (with_reducible repeat (first | refine blk_drewN ?_ _ | refine blk_drew ?_ | refine blk_alloc ?_ _)); refine blk_put (cs := #[.int .i64 0, .int .i64 0, .int .i64 0, .int .i64 0]) ?_ 1 _ rfl; (with_reducible repeat (first | refine blk_drewN ?_ _ | refine blk_drew ?_ | refine blk_alloc ?_ _)); refine blk_put (cs := #[.int .i64 0, .int .i64 0, .int .i64 0, .int .i64 0]) ?_ 0 _ rfl; (with_reducible repeat (first | refine blk_drewN ?_ _ | refine blk_drew ?_ | refine blk_alloc ?_ _)); refine blk_far ?_ NB148_147.out _; (with_reducible repeat (first | refine blk_drewN ?_ _ | refine blk_drew ?_ | refine blk_alloc ?_ _)); refine blk_far ?_ NB148_147.out _; (with_reducible repeat (first | refine blk_drewN ?_ _ | refine blk_drew ?_ | refine blk_alloc ?_ _)); refine blk_far ?_ NB148_147.out _; (with_reducible repeat (first | refine blk_drewN ?_ _ | refine blk_drew ?_ | refine blk_alloc ?_ _)); refine blk_far ?_ NB148_147.out _; (with_reducible repeat (first | refine blk_drewN ?_ _ | refine blk_drew ?_ | refine blk_alloc ?_ _)); refine blk_far ?_ NB148_147.out _; (with_reducible repeat (first | refine blk_drewN ?_ _ | refine blk_drew ?_ | refine blk_alloc ?_ _)); refine blk_far ?_ NB148_147.out _; (with_reducible repeat (first | refine blk_drewN ?_ _ | refine blk_drew ?_ | refine blk_alloc ?_ _)); exact BK148.out) Tryd.underlying24 rfl (by kernel_rfl) (.tmp .nil)))) rfl ?_
         exact ⟨by first | rfl | (simp [*] <;> rfl), by repeat (first | (with_reducible first | exact HB.out | apply below_alloc | apply pw_below_drewN | apply below_drew1 | refine below_set ?_ GE145.out | refine below_set ?_ GE146.out | refine below_set ?_ GE147.out | refine below_set ?_ GE148.out | refine below_set ?_ GE155.out | refine below_set ?_ GE164.out) | exact HB.out)⟩
end Go.Proofs.YtaojbcplmdjfnaaDoor.Pr
