/- Part 4 of the lemmas on which the card weldPieces_card stands (its sentence and conditions stand in the last text). Conditions: as each lemma says. -/
import Derived.Test.YtaojbcplmdjfnaaDoorKPieces3
import Derived.Deep.Matrix
import Derived.Deep.Strs
import Derived.Lib.SmallJoins
import Derived.OpenShut
import Derived.ProofKit
import Derived.Test.YtaojbcplmdjfnaaDoorRows
import Derived.Laws.BytesArg
import Derived.Laws.Strings
import Derived.Lib.TrimUEq
import Derived.Lib.RuneCountTail
import Derived.Lib.Strings
import Derived.Lib.SlBytesConst
import Derived.Outline
namespace Go.Proofs.YtaojbcplmdjfnaaDoor.Pr
open Go.RowKit Go.Proofs.YtaojbcplmdjfnaaDoorW.PrintWords Go.Proofs.YtaojbcplmdjfnaaDoorW.PrintLast Go.Proofs.YtaojbcplmdjfnaaDoorW.PrintMore
attribute [local go_sem] max2_int min2_int max_two min_two max_three min_three max_four min_four   -- for this text's walks alone
set_option linter.unusedVariables false
set_option linter.unusedSimpArgs false
def weld_Join.f (k : Nat) (a0_0 : Int) (a0_1 : Int) (a0_2 : Int) (a0_3 : Int) (a0_4 : ByteArray) (a0_5 : ByteArray) (a1_0 : Int) (a1_1 : Int) (a1_2 : Int) (a1_3 : Int) (a1_4 : ByteArray) (a1_5 : ByteArray) : Option (Int × Int × Int × Int × ByteArray × ByteArray × Int) := (weld_both.f k a0_0 a0_1 a0_2 a0_3 a0_4 a0_5 a1_0 a1_1 a1_2 a1_3 a1_4 a1_5).bind fun bt172 => (some (bt172.1, bt172.2.1, bt172.2.2.1, bt172.2.2.2.1, bt172.2.2.2.2.1, bt172.2.2.2.2.2.1, bt172.2.2.2.2.2.2.2.2.2.2))
set_option maxHeartbeats 8000000 in
set_option maxRecDepth 100000 in
theorem weld_Join.calls (k : Nat) (a0_0 : Int) (a0_1 : Int) (a0_2 : Int) (a0_3 : Int) (a0_4 : ByteArray) (a0_5 : ByteArray) (a1_0 : Int) (a1_1 : Int) (a1_2 : Int) (a1_3 : Int) (a1_4 : ByteArray) (a1_5 : ByteArray) (r1 : Int) (r2 : Int) (r3 : Int) (r4 : Int) (r5 : ByteArray) (r6 : ByteArray) (r7 : Int) (w : World) (hG : Glob.Globs w) (h : weld_Join.f k a0_0 a0_1 a0_2 a0_3 a0_4 a0_5 a1_0 a1_1 a1_2 a1_3 a1_4 a1_5 = some (r1, r2, r3, r4, r5, r6, r7)) :
  Calls Tryd.prog 17 #[.agg #[.int .i64 a0_0, .int .i64 a0_1, .int .i64 a0_2, .int .i64 a0_3, .string a0_4, .string a0_5], .agg #[.int .i64 a1_0, .int .i64 a1_1, .int .i64 a1_2, .int .i64 a1_3, .string a1_4, .string a1_5]] w fun e w' => e = .returned (.tuple #[.agg #[.int .i64 r1, .int .i64 r2, .int .i64 r3, .int .i64 r4, .string r5, .string r6], .int .i64 r7]) ∧ Below w.heap.size w w' := by
 have hu26 := Tryd.underlying26
 have hu24 := Tryd.underlying24
 have HG := Aside0.mk hG
 clear hG
 have HB := Aside0.mk (Below.refl w.heap.size w)
 have H : ((weld_both.f k a0_0 a0_1 a0_2 a0_3 a0_4 a0_5 a1_0 a1_1 a1_2 a1_3 a1_4 a1_5).bind fun bt172 => (some (bt172.1, bt172.2.1, bt172.2.2.1, bt172.2.2.2.1, bt172.2.2.2.2.1, bt172.2.2.2.2.2.1, bt172.2.2.2.2.2.2.2.2.2.2))) = some (r1, r2, r3, r4, r5, r6, r7) := h
 clear h
 replace H := Option.bind_eq_some_iff.mp H
 obtain ⟨⟨t172, t173, t174, t175, t176, t177, t178, t179, t180, t181, t182⟩, A30, H⟩ := H
 replace H : (some (t172, t173, t174, t175, t176, t177, t182)) = some (r1, r2, r3, r4, r5, r6, r7) := H
 have A3 := Aside0.mk A30
 clear A30
 simp only [Option.some.injEq, Prod.mk.injEq] at H
 obtain ⟨rfl, rfl, rfl, rfl, rfl, rfl, rfl⟩ := H
 go_enter Tryd.func17, Tryd.ntmps17
 go_wp2_with (first | ((with_reducible refine gate_dst (N := 2) rfl ?_); refine box_event ?hg (N := 2) ?hd (cs := #[.int .i64 a0_0, .int .i64 a0_1, .int .i64 a0_2, .int .i64 a0_3, .string a0_4, .string a0_5]) (t := 26) ?hr ?_; (case hd => rfl); (case hg => rfl); (case hr => first | (go_simp; done) | (go_simp; rfl)); intro gb169 hg w4 hbox hb; have n0_ := Aside0.mk (below_step (by repeat (first | (with_reducible first | exact HB.out | apply below_alloc | apply pw_below_drewN | apply below_drew1) | exact HB.out)) hb); have n1_ := Aside0.mk (hbox); have n2_ := Aside0.mk ((by rw [hg]; exact (below_size (by repeat (first | (with_reducible first | exact HB.out | apply below_alloc | apply pw_below_drewN | apply below_drew1) | exact HB.out))) : w.heap.size ≤ gb169)); have n3_ := Aside0.mk ((by rw [hg]; exact (below_size (by repeat (first | (with_reducible first | exact HB.out | apply below_alloc | apply pw_below_drewN | apply below_drew1) | exact HB.out))) : w.heap.size ≤ gb169)); clear HB; have HB := n0_; have BK169 := n1_; have GW169 := n2_; have GE169 := n3_; clear n0_ n1_ n2_ n3_; clear hb hbox hg) | ((with_reducible refine gate_dst (N := 3) rfl ?_); refine box_event ?hg (N := 3) ?hd (cs := #[.int .i64 a1_0, .int .i64 a1_1, .int .i64 a1_2, .int .i64 a1_3, .string a1_4, .string a1_5]) (t := 26) ?hr ?_; (case hd => rfl); (case hg => rfl); (case hr => first | (go_simp; done) | (go_simp; rfl)); intro gb170 hg w5 hbox hb; have n0_ := Aside0.mk (blk_below (g := gb169) (o := .cells #[.int .i64 a0_0, .int .i64 a0_1, .int .i64 a0_2, .int .i64 a0_3, .string a0_4, .string a0_5] 26 (0, 0)) (by (with_reducible repeat (first | refine blk_drewN ?_ _ | refine blk_drew ?_ | refine blk_alloc ?_ _)); exact BK169.out) hb); have n1_ := Aside0.mk (below_step (by repeat (first | (with_reducible first | exact HB.out | apply below_alloc | apply pw_below_drewN | apply below_drew1 | refine below_set ?_ GE169.out) | exact HB.out)) hb); have n2_ := Aside0.mk (hbox); have n3_ := Aside0.mk ((by rw [hg]; exact (below_size (by repeat (first | (with_reducible first | exact HB.out | apply below_alloc | apply pw_below_drewN | apply below_drew1 | refine below_set ?_ GE169.out) | exact HB.out))) : w.heap.size ≤ gb170)); have n4_ := Aside0.mk ((by rw [hg]; exact (below_size (by repeat (first | (with_reducible first | exact HB.out | apply below_alloc | apply pw_below_drewN | apply below_drew1 | refine below_set ?_ GE169.out) | exact HB.out))) : w.heap.size ≤ gb170)); have n5_ := Aside0.mk ((by rw [hg]; exact Nat.ne_of_lt (blk_lt (g := gb169) (o := .cells #[.int .i64 a0_0, .int .i64 a0_1, .int .i64 a0_2, .int .i64 a0_3, .string a0_4, .string a0_5] 26 (0, 0)) (by (with_reducible repeat (first | refine blk_drewN ?_ _ | refine blk_drew ?_ | refine blk_alloc ?_ _)); exact BK169.out)) : gb169 ≠ gb170)); have n6_ := Aside0.mk ((by rw [hg]; exact Nat.ne_of_gt (blk_lt (g := gb169) (o := .cells #[.int .i64 a0_0, .int .i64 a0_1, .int .i64 a0_2, .int .i64 a0_3, .string a0_4, .string a0_5] 26 (0, 0)) (by (with_reducible repeat (first | refine blk_drewN ?_ _ | refine blk_drew ?_ | refine blk_alloc ?_ _)); exact BK169.out)) : gb170 ≠ gb169)); clear BK169; clear HB; have BK169 := n0_; have HB := n1_; have BK170 := n2_; have GW170 := n3_; have GE170 := n4_; have NB169_170 := n5_; have NB170_169 := n6_; clear n0_ n1_ n2_ n3_ n4_ n5_ n6_; clear hb hbox hg) | ((with_reducible refine gate_dst (N := 4) rfl ?_); refine box_event ?hg (N := 4) ?hd (cs := #[.int .i64 0, .int .i64 0, .int .i64 0, .int .i64 0, .string (⟨#[]⟩ : ByteArray), .string (⟨#[]⟩ : ByteArray)]) (t := 26) ?hr ?_; (case hd => rfl); (case hg => rfl); (case hr => first | (go_simp; done) | (go_simp; rfl)); intro gb171 hg w6 hbox hb; have n0_ := Aside0.mk (blk_below (g := gb169) (o := .cells #[.int .i64 a0_0, .int .i64 a0_1, .int .i64 a0_2, .int .i64 a0_3, .string a0_4, .string a0_5] 26 (0, 0)) (by (with_reducible repeat (first | refine blk_drewN ?_ _ | refine blk_drew ?_ | refine blk_alloc ?_ _)); exact BK169.out) hb); have n1_ := Aside0.mk (blk_below (g := gb170) (o := .cells #[.int .i64 a1_0, .int .i64 a1_1, .int .i64 a1_2, .int .i64 a1_3, .string a1_4, .string a1_5] 26 (0, 0)) (by (with_reducible repeat (first | refine blk_drewN ?_ _ | refine blk_drew ?_ | refine blk_alloc ?_ _)); exact BK170.out) hb); have n2_ := Aside0.mk (below_step (by repeat (first | (with_reducible first | exact HB.out | apply below_alloc | apply pw_below_drewN | apply below_drew1 | refine below_set ?_ GE169.out | refine below_set ?_ GE170.out) | exact HB.out)) hb); have n3_ := Aside0.mk (hbox); have n4_ := Aside0.mk ((by rw [hg]; exact (below_size (by repeat (first | (with_reducible first | exact HB.out | apply below_alloc | apply pw_below_drewN | apply below_drew1 | refine below_set ?_ GE169.out | refine below_set ?_ GE170.out) | exact HB.out))) : w.heap.size ≤ gb171)); have n5_ := Aside0.mk ((by rw [hg]; exact (below_size (by repeat (first | (with_reducible first | exact HB.out | apply below_alloc | apply pw_below_drewN | apply below_drew1 | refine below_set ?_ GE169.out | refine below_set ?_ GE170.out) | exact HB.out))) : w.heap.size ≤ gb171)); have n6_ := Aside0.mk ((by rw [hg]; exact Nat.ne_of_lt (blk_lt (g := gb169) (o := .cells #[.int .i64 a0_0, .int .i64 a0_1, .int .i64 a0_2, .int .i64 a0_3, .string a0_4, .string a0_5] 26 (0, 0)) (by (with_reducible repeat (first | refine blk_drewN ?_ _ | refine blk_drew ?_ | refine blk_alloc ?_ _)); exact BK169.out)) : gb169 ≠ gb171)); have n7_ := Aside0.mk ((by rw [hg]; exact Nat.ne_of_gt (blk_lt (g := gb169) (o := .cells #[.int .i64 a0_0, .int .i64 a0_1, .int .i64 a0_2, .int .i64 a0_3, .string a0_4, .string a0_5] 26 (0, 0)) (by (with_reducible repeat (first | refine blk_drewN ?_ _ | refine blk_drew ?_ | refine blk_alloc ?_ _)); exact BK169.out)) : gb171 ≠ gb169)); have n8_ := Aside0.mk ((by rw [hg]; exact Nat.ne_of_lt (blk_lt (g := gb170) (o := .cells #[.int .i64 a1_0, .int .i64 a1_1, .int .i64 a1_2, .int .i64 a1_3, .string a1_4, .string a1_5] 26 (0, 0)) (by (with_reducible repeat (first | refine blk_drewN ?_ _ | refine blk_drew ?_ | refine blk_alloc ?_ _)); exact BK170.out)) : gb170 ≠ gb171)); have n9_ := Aside0.mk ((by rw [hg]; exact Nat.ne_of_gt (blk_lt (g := gb170) (o := .cells #[.int .i64 a1_0, .int .i64 a1_1, .int .i64 a1_2, .int .i64 a1_3, .string a1_4, .string a1_5] 26 (0, 0)) (by (with_reducible repeat (first | refine blk_drewN ?_ _ | refine blk_drew ?_ | refine blk_alloc ?_ _)); exact BK170.out)) : gb171 ≠ gb170)); clear BK169; clear BK170; clear HB; have BK169 := n0_; have BK170 := n1_; have HB := n2_; have BK171 := n3_; have GW171 := n4_; have GE171 := n5_; have NB169_171 := n6_; have NB171_169 := n7_; have NB170_171 := n8_; have NB171_170 := n9_; clear n0_ n1_ n2_ n3_ n4_ n5_ n6_ n7_ n8_ n9_; clear hb hbox hg; have hnb7 := NB169_170.out; have hnc7 := NB170_169.out; have hnb8 := NB169_171.out; have hnc8 := NB171_169.out; have hcz9_0 : w6.cell? ⟨gb169, 0, none⟩ = some (.int .i64 a0_0) := (blk_cell BK169.out 0).trans rfl; have hcz9_1 : w6.cell? ⟨gb169, 1, none⟩ = some (.int .i64 a0_1) := (blk_cell BK169.out 1).trans rfl; have hcz9_2 : w6.cell? ⟨gb169, 2, none⟩ = some (.int .i64 a0_2) := (blk_cell BK169.out 2).trans rfl; have hcz9_3 : w6.cell? ⟨gb169, 3, none⟩ = some (.int .i64 a0_3) := (blk_cell BK169.out 3).trans rfl; have hcz9_4 : w6.cell? ⟨gb169, 4, none⟩ = some (.string a0_4) := (blk_cell BK169.out 4).trans rfl; have hcz9_5 : w6.cell? ⟨gb169, 5, none⟩ = some (.string a0_5) := (blk_cell BK169.out 5).trans rfl; have hfz9_0 := blk_frozen BK169.out 0; have hfz9_1 := blk_frozen BK169.out 1; have hfz9_2 := blk_frozen BK169.out 2; have hfz9_3 := blk_frozen BK169.out 3; have hfz9_4 := blk_frozen BK169.out 4; have hfz9_5 := blk_frozen BK169.out 5; have hnb10 := NB170_171.out; have hnc10 := NB171_170.out; have hcz11_0 : w6.cell? ⟨gb170, 0, none⟩ = some (.int .i64 a1_0) := (blk_cell BK170.out 0).trans rfl; have hcz11_1 : w6.cell? ⟨gb170, 1, none⟩ = some (.int .i64 a1_1) := (blk_cell BK170.out 1).trans rfl; have hcz11_2 : w6.cell? ⟨gb170, 2, none⟩ = some (.int .i64 a1_2) := (blk_cell BK170.out 2).trans rfl; have hcz11_3 : w6.cell? ⟨gb170, 3, none⟩ = some (.int .i64 a1_3) := (blk_cell BK170.out 3).trans rfl; have hcz11_4 : w6.cell? ⟨gb170, 4, none⟩ = some (.string a1_4) := (blk_cell BK170.out 4).trans rfl; have hcz11_5 : w6.cell? ⟨gb170, 5, none⟩ = some (.string a1_5) := (blk_cell BK170.out 5).trans rfl; have hfz11_0 := blk_frozen BK170.out 0; have hfz11_1 := blk_frozen BK170.out 1; have hfz11_2 := blk_frozen BK170.out 2; have hfz11_3 := blk_frozen BK170.out 3; have hfz11_4 := blk_frozen BK170.out 4; have hfz11_5 := blk_frozen BK170.out 5) | ((with_reducible refine gate_callee (f := 32) rfl ?_); refine goesL_ (some 12) rfl rfl Tryd.func32 (by kernel_rfl) rfl #[.agg #[.int .i64 a0_0, .int .i64 a0_1, .int .i64 a0_2, .int .i64 a0_3, .string a0_4, .string a0_5], .agg #[.int .i64 a1_0, .int .i64 a1_1, .int .i64 a1_2, .int .i64 a1_3, .string a1_4, .string a1_5]] rfl (by (try simp only [List.map_toArray, List.map_cons, List.map_nil]); first | done | rfl | (simp only [List.length_drop, List.length_take]; rfl)) ?_; (with_reducible refine (weld_both.calls k a0_0 a0_1 a0_2 a0_3 a0_4 a0_5 a1_0 a1_1 a1_2 a1_3 a1_4 a1_5 t172 t173 t174 t175 t176 t177 t178 t179 t180 t181 t182 _ ?side1 A3.out).mono ?_); (case side1 => first | (with_reducible exact HG.out) | exact Glob.Globs_below HG.out (by repeat (first | (with_reducible first | exact HB.out | apply below_alloc | apply pw_below_drewN | apply below_drew1 | refine below_set ?_ GE169.out | refine below_set ?_ GE170.out | refine below_set ?_ GE171.out) | exact HB.out))); rintro e w12 ⟨rfl, hb⟩; refine ⟨_, rfl, ?_⟩; have n0_ := Aside0.mk (blk_below (g := gb169) (o := .cells #[.int .i64 a0_0, .int .i64 a0_1, .int .i64 a0_2, .int .i64 a0_3, .string a0_4, .string a0_5] 26 (0, 0)) (by (with_reducible repeat (first | refine blk_drewN ?_ _ | refine blk_drew ?_ | refine blk_alloc ?_ _)); exact BK169.out) hb); have n1_ := Aside0.mk (blk_below (g := gb170) (o := .cells #[.int .i64 a1_0, .int .i64 a1_1, .int .i64 a1_2, .int .i64 a1_3, .string a1_4, .string a1_5] 26 (0, 0)) (by (with_reducible repeat (first | refine blk_drewN ?_ _ | refine blk_drew ?_ | refine blk_alloc ?_ _)); exact BK170.out) hb); have n2_ := Aside0.mk (blk_below (g := gb171) (o := .cells #[.int .i64 0, .int .i64 0, .int .i64 0, .int .i64 0, .string (⟨#[]⟩ : ByteArray), .string (⟨#[]⟩ : ByteArray)] 26 (0, 0)) (by (with_reducible repeat (first | refine blk_drewN ?_ _ | refine blk_drew ?_ | refine blk_alloc ?_ _)); exact BK171.out) hb); have n3_ := Aside0.mk (below_step (by repeat (first | (with_reducible first | exact HB.out | apply below_alloc | apply pw_below_drewN | apply below_drew1 | refine below_set ?_ GE169.out | refine below_set ?_ GE170.out | refine below_set ?_ GE171.out) | exact HB.out)) hb); clear BK169; clear BK170; clear BK171; clear HB; have BK169 := n0_; have BK170 := n1_; have BK171 := n2_; have HB := n3_; clear n0_ n1_ n2_ n3_; (try clear hb); (try clear hb2); (try clear hk); (try clear hi)) | ((with_reducible refine gate_dst (N := 6) rfl ?_); refine box_event ?hg (N := 6) ?hd (cs := #[.int .i64 0, .int .i64 0, .int .i64 0, .int .i64 0, .string (⟨#[]⟩ : ByteArray), .string (⟨#[]⟩ : ByteArray)]) (t := 26) ?hr ?_; (case hd => rfl); (case hg => rfl); (case hr => first | (go_simp; done) | (go_simp; rfl)); intro gb183 hg w13 hbox hb; have n0_ := Aside0.mk (blk_below (g := gb169) (o := .cells #[.int .i64 a0_0, .int .i64 a0_1, .int .i64 a0_2, .int .i64 a0_3, .string a0_4, .string a0_5] 26 (0, 0)) (by (with_reducible repeat (first | refine blk_drewN ?_ _ | refine blk_drew ?_ | refine blk_alloc ?_ _)); exact BK169.out) hb); have n1_ := Aside0.mk (blk_below (g := gb170) (o := .cells #[.int .i64 a1_0, .int .i64 a1_1, .int .i64 a1_2, .int .i64 a1_3, .string a1_4, .string a1_5] 26 (0, 0)) (by (with_reducible repeat (first | refine blk_drewN ?_ _ | refine blk_drew ?_ | refine blk_alloc ?_ _)); exact BK170.out) hb); have n2_ := Aside0.mk (blk_below (g := gb171) (o := .cells #[.int .i64 0, .int .i64 0, .int .i64 0, .int .i64 0, .string (⟨#[]⟩ : ByteArray), .string (⟨#[]⟩ : ByteArray)] 26 (0, 0)) (by (with_reducible repeat (first | refine blk_drewN ?_ _ | refine blk_drew ?_ | refine blk_alloc ?_ _)); exact BK171.out) hb); have n3_ := Aside0.mk (below_step (by repeat (first | (with_reducible first | exact HB.out | apply below_alloc | apply pw_below_drewN | apply below_drew1 | refine below_set ?_ GE169.out | refine below_set ?_ GE170.out | refine below_set ?_ GE171.out) | exact HB.out)) hb); have n4_ := Aside0.mk (hbox); have n5_ := Aside0.mk ((by rw [hg]; exact (below_size (by repeat (first | (with_reducible first | exact HB.out | apply below_alloc | apply pw_below_drewN | apply below_drew1 | refine below_set ?_ GE169.out | refine below_set ?_ GE170.out | refine below_set ?_ GE171.out) | exact HB.out))) : w.heap.size ≤ gb183)); have n6_ := Aside0.mk ((by rw [hg]; exact (below_size (by repeat (first | (with_reducible first | exact HB.out | apply below_alloc | apply pw_below_drewN | apply below_drew1 | refine below_set ?_ GE169.out | refine below_set ?_ GE170.out | refine below_set ?_ GE171.out) | exact HB.out))) : w.heap.size ≤ gb183)); have n7_ := Aside0.mk ((by rw [hg]; exact Nat.ne_of_lt (blk_lt (g := gb169) (o := .cells #[.int .i64 a0_0, .int .i64 a0_1, .int .i64 a0_2, .int .i64 a0_3, .string a0_4, .string a0_5] 26 (0, 0)) (by (with_reducible repeat (first | refine blk_drewN ?_ _ | refine blk_drew ?_ | refine blk_alloc ?_ _)); exact BK169.out)) : gb169 ≠ gb183)); have n8_ := Aside0.mk ((by rw [hg]; exact Nat.ne_of_gt (blk_lt (g := gb169) (o := .cells #[.int .i64 a0_0, .int .i64 a0_1, .int .i64 a0_2, .int .i64 a0_3, .string a0_4, .string a0_5] 26 (0, 0)) (by (with_reducible repeat (first | refine blk_drewN ?_ _ | refine blk_drew ?_ | refine blk_alloc ?_ _)); exact BK169.out)) : gb183 ≠ gb169)); have n9_ := Aside0.mk ((by rw [hg]; exact Nat.ne_of_lt (blk_lt (g := gb170) (o := .cells #[.int .i64 a1_0, .int .i64 a1_1, .int .i64 a1_2, .int .i64 a1_3, .string a1_4, .string a1_5] 26 (0, 0)) (by (with_reducible repeat (first | refine blk_drewN ?_ _ | refine blk_drew ?_ | refine blk_alloc ?_ _)); exact BK170.out)) : gb170 ≠ gb183)); have n10_ := Aside0.mk ((by rw [hg]; exact Nat.ne_of_gt (blk_lt (g := gb170) (o := .cells #[.int .i64 a1_0, .int .i64 a1_1, .int .i64 a1_2, .int .i64 a1_3, .string a1_4, .string a1_5] 26 (0, 0)) (by (with_reducible repeat (first | refine blk_drewN ?_ _ | refine blk_drew ?_ | refine blk_alloc ?_ _)); exact BK170.out)) : gb183 ≠ gb170)); have n11_ := Aside0.mk ((by rw [hg]; exact Nat.ne_of_lt (blk_lt (g := gb171) (o := .cells #[.int .i64 0, .int .i64 0, .int .i64 0, .int .i64 0, .string (⟨#[]⟩ : ByteArray), .string (⟨#[]⟩ : ByteArray)] 26 (0, 0)) (by (with_reducible repeat (first | refine blk_drewN ?_ _ | refine blk_drew ?_ | refine blk_alloc ?_ _)); exact BK171.out)) : gb171 ≠ gb183)); have n12_ := Aside0.mk ((by rw [hg]; exact Nat.ne_of_gt (blk_lt (g := gb171) (o := .cells #[.int .i64 0, .int .i64 0, .int .i64 0, .int .i64 0, .string (⟨#[]⟩ : ByteArray), .string (⟨#[]⟩ : ByteArray)] 26 (0, 0)) (by (with_reducible repeat (first | refine blk_drewN ?_ _ | refine blk_drew ?_ | refine blk_alloc ?_ _)); exact BK171.out)) : gb183 ≠ gb171)); clear BK169; clear BK170; clear BK171; clear HB; have BK169 := n0_; have BK170 := n1_; have BK171 := n2_; have HB := n3_; have BK183 := n4_; have GW183 := n5_; have GE183 := n6_; have NB169_183 := n7_; have NB183_169 := n8_; have NB170_183 := n9_; have NB183_170 := n10_; have NB171_183 := n11_; have NB183_171 := n12_; clear n0_ n1_ n2_ n3_ n4_ n5_ n6_ n7_ n8_ n9_ n10_ n11_ n12_; clear hb hbox hg) | ((with_reducible refine gate_dst (N := 7) rfl ?_); refine box_event ?hg (N := 7) ?hd (cs := #[.int .i64 0, .int .i64 0, .int .i64 0, .int .i64 0]) (t := 24) ?hr ?_; (case hd => rfl); (case hg => rfl); (case hr => first | (go_simp; done) | (go_simp; rfl)); intro gb184 hg w14 hbox hb; have n0_ := Aside0.mk (blk_below (g := gb169) (o := .cells #[.int .i64 a0_0, .int .i64 a0_1, .int .i64 a0_2, .int .i64 a0_3, .string a0_4, .string a0_5] 26 (0, 0)) (by (with_reducible repeat (first | refine blk_drewN ?_ _ | refine blk_drew ?_ | refine blk_alloc ?_ _)); exact BK169.out) hb); have n1_ := Aside0.mk (blk_below (g := gb170) (o := .cells #[.int .i64 a1_0, .int .i64 a1_1, .int .i64 a1_2, .int .i64 a1_3, .string a1_4, .string a1_5] 26 (0, 0)) (by (with_reducible repeat (first | refine blk_drewN ?_ _ | refine blk_drew ?_ | refine blk_alloc ?_ _)); exact BK170.out) hb); have n2_ := Aside0.mk (blk_below (g := gb171) (o := .cells #[.int .i64 0, .int .i64 0, .int .i64 0, .int .i64 0, .string (⟨#[]⟩ : ByteArray), .string (⟨#[]⟩ : ByteArray)] 26 (0, 0)) (by (with_reducible repeat (first | refine blk_drewN ?_ _ | refine blk_drew ?_ | refine blk_alloc ?_ _)); exact BK171.out) hb); have n3_ := Aside0.mk (blk_below (g := gb183) (o := .cells #[.int .i64 0, .int .i64 0, .int .i64 0, .int .i64 0, .string (⟨#[]⟩ : ByteArray), .string (⟨#[]⟩ : ByteArray)] 26 (0, 0)) (by (with_reducible repeat (first | refine blk_drewN ?_ _ | refine blk_drew ?_ | refine blk_alloc ?_ _)); exact BK183.out) hb); have n4_ := Aside0.mk (below_step (by repeat (first | (with_reducible first | exact HB.out | apply below_alloc | apply pw_below_drewN | apply below_drew1 | refine below_set ?_ GE169.out | refine below_set ?_ GE170.out | refine below_set ?_ GE171.out | refine below_set ?_ GE183.out) | exact HB.out)) hb); have n5_ := Aside0.mk (hbox); have n6_ := Aside0.mk ((by rw [hg]; exact (below_size (by repeat (first | (with_reducible first | exact HB.out | apply below_alloc | apply pw_below_drewN | apply below_drew1 | refine below_set ?_ GE169.out | refine below_set ?_ GE170.out | refine below_set ?_ GE171.out | refine below_set ?_ GE183.out) | exact HB.out))) : w.heap.size ≤ gb184)); have n7_ := Aside0.mk ((by rw [hg]; exact (below_size (by repeat (first | (with_reducible first | exact HB.out | apply below_alloc | apply pw_below_drewN | apply below_drew1 | refine below_set ?_ GE169.out | refine below_set ?_ GE170.out | refine below_set ?_ GE171.out | refine below_set ?_ GE183.out) | exact HB.out))) : w.heap.size ≤ gb184)); have n8_ := Aside0.mk ((by rw [hg]; exact Nat.ne_of_lt (blk_lt (g := gb169) (o := .cells #[.int .i64 a0_0, .int .i64 a0_1, .int .i64 a0_2, .int .i64 a0_3, .string a0_4, .string a0_5] 26 (0, 0)) (by (with_reducible repeat (first | refine blk_drewN ?_ _ | refine blk_drew ?_ | refine blk_alloc ?_ _)); exact BK169.out)) : gb169 ≠ gb184)); have n9_ := Aside0.mk ((by rw [hg]; exact Nat.ne_of_gt (blk_lt (g := gb169) (o := .cells #[.int .i64 a0_0, .int .i64 a0_1, .int .i64 a0_2, .int .i64 a0_3, .string a0_4, .string a0_5] 26 (0, 0)) (by (with_reducible repeat (first | refine blk_drewN ?_ _ | refine blk_drew ?_ | refine blk_alloc ?_ _)); exact BK169.out)) : gb184 ≠ gb169)); have n10_ := Aside0.mk ((by rw [hg]; exact Nat.ne_of_lt (blk_lt (g := gb170) (o := .cells #[.int .i64 a1_0, .int .i64 a1_1, .int .i64 a1_2, .int .i64 a1_3, .string a1_4, .string a1_5] 26 (0, 0)) (by (with_reducible repeat (first | refine blk_drewN ?_ _ | refine blk_drew ?_ | refine blk_alloc ?_ _)); exact BK170.out)) : gb170 ≠ gb184)); have n11_ := Aside0.mk ((by rw [hg]; exact Nat.ne_of_gt (blk_lt (g := gb170) (o := .cells #[.int .i64 a1_0, .int .i64 a1_1, .int .i64 a1_2, .int .i64 a1_3, .string a1_4, .string a1_5] 26 (0, 0)) (by (with_reducible repeat (first | refine blk_drewN ?_ _ | refine blk_drew ?_ | refine blk_alloc ?_ _)); exact BK170.out)) : gb184 ≠ gb170)); have n12_ := Aside0.mk ((by rw [hg]; exact Nat.ne_of_lt (blk_lt (g := gb171) (o := .cells #[.int .i64 0, .int .i64 0, .int .i64 0, .int .i64 0, .string (⟨#[]⟩ : ByteArray), .string (⟨#[]⟩ : ByteArray)] 26 (0, 0)) (by (with_reducible repeat (first | refine blk_drewN ?_ _ | refine blk_drew ?_ | refine blk_alloc ?_ _)); exact BK171.out)) : gb171 ≠ gb184)); have n13_ := Aside0.mk ((by rw [hg]; exact Nat.ne_of_gt (blk_lt (g := gb171) (o := .cells #[.int .i64 0, .int .i64 0, .int .i64 0, .int .i64 0, .string (⟨#[]⟩ : ByteArray), .string (⟨#[]⟩ : ByteArray)] 26 (0, 0)) (by (with_reducible repeat (first | refine blk_drewN ?_ _ | refine blk_drew ?_ | refine blk_alloc ?_ _)); exact BK171.out)) : gb184 ≠ gb171)); have n14_ := Aside0.mk ((by rw [hg]; exact Nat.ne_of_lt (blk_lt (g := gb183) (o := .cells #[.int .i64 0, .int .i64 0, .int .i64 0, .int .i64 0, .string (⟨#[]⟩ : ByteArray), .string (⟨#[]⟩ : ByteArray)] 26 (0, 0)) (by (with_reducible repeat (first | refine blk_drewN ?_ _ | refine blk_drew ?_ | refine blk_alloc ?_ _)); exact BK183.out)) : gb183 ≠ gb184)); have n15_ := Aside0.mk ((by rw [hg]; exact Nat.ne_of_gt (blk_lt (g := gb183) (o := .cells #[.int .i64 0, .int .i64 0, .int .i64 0, .int .i64 0, .string (⟨#[]⟩ : ByteArray), .string (⟨#[]⟩ : ByteArray)] 26 (0, 0)) (by (with_reducible repeat (first | refine blk_drewN ?_ _ | refine blk_drew ?_ | refine blk_alloc ?_ _)); exact BK183.out)) : gb184 ≠ gb183)); clear BK169; clear BK170; clear BK171; clear BK183; clear HB; have BK169 := n0_; have BK170 := n1_; have BK171 := n2_; have BK183 := n3_; have HB := n4_; have BK184 := n5_; have GW184 := n6_; have GE184 := n7_; have NB169_184 := n8_; have NB184_169 := n9_; have NB170_184 := n10_; have NB184_170 := n11_; have NB171_184 := n12_; have NB184_171 := n13_; have NB183_184 := n14_; have NB184_183 := n15_; clear n0_ n1_ n2_ n3_ n4_ n5_ n6_ n7_ n8_ n9_ n10_ n11_ n12_ n13_ n14_ n15_; clear hb hbox hg; have hnb15 := NB183_169.out; have hnc15 := NB169_183.out; have hnb16 := NB183_170.out; have hnc16 := NB170_183.out; have hnb17 := NB183_171.out; have hnc17 := NB171_183.out; have hnb18 := NB183_184.out; have hnc18 := NB184_183.out; have hcz19_0 : w14.cell? ⟨gb183, 0, none⟩ = some (.int .i64 0) := (blk_cell BK183.out 0).trans rfl; have hcz19_1 : w14.cell? ⟨gb183, 1, none⟩ = some (.int .i64 0) := (blk_cell BK183.out 1).trans rfl; have hcz19_2 : w14.cell? ⟨gb183, 2, none⟩ = some (.int .i64 0) := (blk_cell BK183.out 2).trans rfl; have hcz19_3 : w14.cell? ⟨gb183, 3, none⟩ = some (.int .i64 0) := (blk_cell BK183.out 3).trans rfl; have hcz19_4 : w14.cell? ⟨gb183, 4, none⟩ = some (.string (⟨#[]⟩ : ByteArray)) := (blk_cell BK183.out 4).trans rfl; have hcz19_5 : w14.cell? ⟨gb183, 5, none⟩ = some (.string (⟨#[]⟩ : ByteArray)) := (blk_cell BK183.out 5).trans rfl; have hfz19_0 := blk_frozen BK183.out 0; have hfz19_1 := blk_frozen BK183.out 1; have hfz19_2 := blk_frozen BK183.out 2; have hfz19_3 := blk_frozen BK183.out 3; have hfz19_4 := blk_frozen BK183.out 4; have hfz19_5 := blk_frozen BK183.out 5; have hnb20 := NB184_169.out; have hnc20 := NB169_184.out; have hnb21 := NB184_170.out; have hnc21 := NB170_184.out; have hnb22 := NB184_171.out; have hnc22 := NB171_184.out; have hcz23_0 : w14.cell? ⟨gb184, 0, none⟩ = some (.int .i64 0) := (blk_cell BK184.out 0).trans rfl; have hcz23_1 : w14.cell? ⟨gb184, 1, none⟩ = some (.int .i64 0) := (blk_cell BK184.out 1).trans rfl; have hcz23_2 : w14.cell? ⟨gb184, 2, none⟩ = some (.int .i64 0) := (blk_cell BK184.out 2).trans rfl; have hcz23_3 : w14.cell? ⟨gb184, 3, none⟩ = some (.int .i64 0) := (blk_cell BK184.out 3).trans rfl; have hfz23_0 := blk_frozen BK184.out 0; have hfz23_1 := blk_frozen BK184.out 1; have hfz23_2 := blk_frozen BK184.out 2; have hfz23_3 := blk_frozen BK184.out 3; have hcz24_0 : w14.cell? ⟨gb171, 0, none⟩ = some (.int .i64 0) := (blk_cell BK171.out 0).trans rfl; have hcz24_1 : w14.cell? ⟨gb171, 1, none⟩ = some (.int .i64 0) := (blk_cell BK171.out 1).trans rfl; have hcz24_2 : w14.cell? ⟨gb171, 2, none⟩ = some (.int .i64 0) := (blk_cell BK171.out 2).trans rfl; have hcz24_3 : w14.cell? ⟨gb171, 3, none⟩ = some (.int .i64 0) := (blk_cell BK171.out 3).trans rfl; have hcz24_4 : w14.cell? ⟨gb171, 4, none⟩ = some (.string (⟨#[]⟩ : ByteArray)) := (blk_cell BK171.out 4).trans rfl; have hcz24_5 : w14.cell? ⟨gb171, 5, none⟩ = some (.string (⟨#[]⟩ : ByteArray)) := (blk_cell BK171.out 5).trans rfl; have hfz24_0 := blk_frozen BK171.out 0; have hfz24_1 := blk_frozen BK171.out 1; have hfz24_2 := blk_frozen BK171.out 2; have hfz24_3 := blk_frozen BK171.out 3; have hfz24_4 := blk_frozen BK171.out 4; have hfz24_5 := blk_frozen BK171.out 5))
 refine bodyPost_ret (results_ct rfl _ _ gb171 26 #[.int .i64 t172, .int .i64 t173, .int .i64 t174, .int .i64 t175, .string t176, .string t177] (0, 0) _ rfl (by (with_reducible repeat (first | refine blk_drewN ?_ _ | refine blk_drew ?_ | refine blk_alloc ?_ _)); refine blk_put (cs := #[.int .i64 t172, .int .i64 t173, .int .i64 t174, .int .i64 t175, .string t176, .string (⟨#[]⟩ : ByteArray)]) ?_ 5 _ rfl; (with_reducible repeat (first | refine blk_drewN ?_ _ | refine blk_drew ?_ | refine blk_alloc ?_ _)); refine blk_put (cs := #[.int .i64 t172, .int .i64 t173, .int .i64 t174, .int .i64 t175, .string (⟨#[]⟩ : ByteArray), .string (⟨#[]⟩ : ByteArray)]) ?_ 4 _ rfl; (with_reducible repeat (first | refine blk_drewN ?_ _ | refine blk_drew ?_ | refine blk_alloc ?_ _)); refine blk_put (cs := #[.int .i64 t172, .int .i64 t173, .int .i64 t174, .int .i64 0, .string (⟨#[]⟩ : ByteArray), .string (⟨#[]⟩ : ByteArray)]) ?_ 3 _ rfl; (with_reducible repeat (first | refine blk_drewN ?_ _ | refine blk_drew ?_ | refine blk_alloc ?_ _)); refine blk_put (cs := #[.int .i64 t172, .int .i64 t173, .int .i64 0, .int .i64 0, .string (⟨#[]⟩ : ByteArray), .string (⟨#[]⟩ : ByteArray)]) ?_ 2 _ rfl; (with_reducible repeat (first | refine blk_drewN ?_ _ | refine blk_drew ?_ | refine blk_alloc ?_ _)); refine blk_put (cs := #[.int .i64 t172, .int .i64 0, .int .i64 0, .int .i64 0, .string (⟨#[]⟩ : ByteArray), .string (⟨#[]⟩ : ByteArray)]) ?_ 1 _ rfl; (with_reducible repeat (first | refine blk_drewN ?_ _ | refine blk_drew ?_ | refine blk_alloc ?_ _)); refine blk_put (cs := #[.int .i64 0, .int .i64 0, .int .i64 0, .int .i64 0, .string (⟨#[]⟩ : ByteArray), .string (⟨#[]⟩ : ByteArray)]) ?_ 0 _ rfl; (with_reducible repeat (first | refine blk_drewN ?_ _ | refine blk_drew ?_ | refine blk_alloc ?_ _)); refine blk_far ?_ NB171_184.out _; (with_reducible repeat (first | refine blk_drewN ?_ _ | refine blk_drew ?_ | refine blk_alloc ?_ _)); refine blk_far ?_ NB171_184.out _; (with_reducible repeat (first | refine blk_drewN ?_ _ | refine blk_drew ?_ | refine blk_alloc ?_ _)); refine blk_far ?_ NB171_184.out _; (with_reducible repeat (first | refine blk_drewN ?_ _ | refine blk_drew ?_ | refine blk_alloc ?_ _)); refine blk_far ?_ NB171_184.out _; (with_reducible repeat (first | refine blk_drewN ?_ _ | refine blk_drew ?_ | refine blk_alloc ?_ _)); refine blk_far ?_ NB171_183.out _; (with_reducible repeat (first | refine blk_drewN ?_ _ | refine blk_drew ?_ | refine blk_alloc ?_ _)); refine blk_far ?_ NB171_183.out _; (with_reducible repeat (first | refine blk_drewN ?_ _ | refine blk_drew ?_ | refine blk_alloc ?_ _)); refine blk_far ?_ NB171_183.out _; (with_reducible repeat (first | refine blk_drewN ?_ _ | refine blk_drew ?_ | refine blk_alloc ?_ _)); refine blk_far ?_ NB171_183.out _; (with_reducible repeat (first | refine blk_drewN ?_ _ | refine blk_drew ?_ | refine blk_alloc ?_ _)); refine blk_far ?_ NB171_183.out _; (with_reducible repeat (first | refine blk_drewN ?_ _ | refine blk_drew ?_ | refine blk_alloc ?_ _)); refine blk_far ?_ NB171_183.out _; (with_reducible repeat (first | refine blk_drewN ?_ _ | refine blk_drew ?_ | refine blk_alloc ?_ _)); exact BK171.out) Tryd.underlying26 rfl (by kernel_rfl)) rfl ?_
 exact ⟨by first | rfl | (simp [errW_none, errW_some] <;> rfl) | (simp [*, errW_none, errW_some] <;> rfl), by repeat (first | (with_reducible first | exact HB.out | apply below_alloc | apply pw_below_drewN | apply below_drew1 | refine below_set ?_ GE169.out | refine below_set ?_ GE170.out | refine below_set ?_ GE171.out | refine below_set ?_ GE183.out | refine below_set ?_ GE184.out) | exact HB.out)⟩
def weld_Seam.f (k : Nat) (a0_0 : Int) (a0_1 : Int) (a0_2 : Int) (a0_3 : Int) (a0_4 : ByteArray) (a0_5 : ByteArray) (a1_0 : Int) (a1_1 : Int) (a1_2 : Int) (a1_3 : Int) (a1_4 : ByteArray) (a1_5 : ByteArray) : Option (Int × Int × Int × Int × Int) := (weld_both.f k a0_0 a0_1 a0_2 a0_3 a0_4 a0_5 a1_0 a1_1 a1_2 a1_3 a1_4 a1_5).bind fun bt188 => (some (bt188.2.2.2.2.2.2.1, bt188.2.2.2.2.2.2.2.1, bt188.2.2.2.2.2.2.2.2.1, bt188.2.2.2.2.2.2.2.2.2.1, bt188.2.2.2.2.2.2.2.2.2.2))
set_option maxHeartbeats 8000000 in
set_option maxRecDepth 100000 in
theorem weld_Seam.calls (k : Nat) (a0_0 : Int) (a0_1 : Int) (a0_2 : Int) (a0_3 : Int) (a0_4 : ByteArray) (a0_5 : ByteArray) (a1_0 : Int) (a1_1 : Int) (a1_2 : Int) (a1_3 : Int) (a1_4 : ByteArray) (a1_5 : ByteArray) (r1 : Int) (r2 : Int) (r3 : Int) (r4 : Int) (r5 : Int) (w : World) (hG : Glob.Globs w) (h : weld_Seam.f k a0_0 a0_1 a0_2 a0_3 a0_4 a0_5 a1_0 a1_1 a1_2 a1_3 a1_4 a1_5 = some (r1, r2, r3, r4, r5)) :
  Calls Tryd.prog 19 #[.agg #[.int .i64 a0_0, .int .i64 a0_1, .int .i64 a0_2, .int .i64 a0_3, .string a0_4, .string a0_5], .agg #[.int .i64 a1_0, .int .i64 a1_1, .int .i64 a1_2, .int .i64 a1_3, .string a1_4, .string a1_5]] w fun e w' => e = .returned (.tuple #[.agg #[.int .i64 r1, .int .i64 r2, .int .i64 r3, .int .i64 r4], .int .i64 r5]) ∧ Below w.heap.size w w' := by
 have hu26 := Tryd.underlying26
 have hu24 := Tryd.underlying24
 have HG := Aside0.mk hG
 clear hG
 have HB := Aside0.mk (Below.refl w.heap.size w)
 have H : ((weld_both.f k a0_0 a0_1 a0_2 a0_3 a0_4 a0_5 a1_0 a1_1 a1_2 a1_3 a1_4 a1_5).bind fun bt188 => (some (bt188.2.2.2.2.2.2.1, bt188.2.2.2.2.2.2.2.1, bt188.2.2.2.2.2.2.2.2.1, bt188.2.2.2.2.2.2.2.2.2.1, bt188.2.2.2.2.2.2.2.2.2.2))) = some (r1, r2, r3, r4, r5) := h
 clear h
 replace H := Option.bind_eq_some_iff.mp H
 obtain ⟨⟨t188, t189, t190, t191, t192, t193, t194, t195, t196, t197, t198⟩, A30, H⟩ := H
 replace H : (some (t194, t195, t196, t197, t198)) = some (r1, r2, r3, r4, r5) := H
 have A3 := Aside0.mk A30
 clear A30
 simp only [Option.some.injEq, Prod.mk.injEq] at H
 obtain ⟨rfl, rfl, rfl, rfl, rfl⟩ := H
 go_enter Tryd.func19, Tryd.ntmps19
 go_wp2_with (first | ((with_reducible refine gate_dst (N := 2) rfl ?_); refine box_event ?hg (N := 2) ?hd (cs := #[.int .i64 a0_0, .int .i64 a0_1, .int .i64 a0_2, .int .i64 a0_3, .string a0_4, .string a0_5]) (t := 26) ?hr ?_; (case hd => rfl); (case hg => rfl); (case hr => first | (go_simp; done) | (go_simp; rfl)); intro gb185 hg w4 hbox hb; have n0_ := Aside0.mk (below_step (by repeat (first | (with_reducible first | exact HB.out | apply below_alloc | apply pw_below_drewN | apply below_drew1) | exact HB.out)) hb); have n1_ := Aside0.mk (hbox); have n2_ := Aside0.mk ((by rw [hg]; exact (below_size (by repeat (first | (with_reducible first | exact HB.out | apply below_alloc | apply pw_below_drewN | apply below_drew1) | exact HB.out))) : w.heap.size ≤ gb185)); have n3_ := Aside0.mk ((by rw [hg]; exact (below_size (by repeat (first | (with_reducible first | exact HB.out | apply below_alloc | apply pw_below_drewN | apply below_drew1) | exact HB.out))) : w.heap.size ≤ gb185)); clear HB; have HB := n0_; have BK185 := n1_; have GW185 := n2_; have GE185 := n3_; clear n0_ n1_ n2_ n3_; clear hb hbox hg) | ((with_reducible refine gate_dst (N := 3) rfl ?_); refine box_event ?hg (N := 3) ?hd (cs := #[.int .i64 a1_0, .int .i64 a1_1, .int .i64 a1_2, .int .i64 a1_3, .string a1_4, .string a1_5]) (t := 26) ?hr ?_; (case hd => rfl); (case hg => rfl); (case hr => first | (go_simp; done) | (go_simp; rfl)); intro gb186 hg w5 hbox hb; have n0_ := Aside0.mk (blk_below (g := gb185) (o := .cells #[.int .i64 a0_0, .int .i64 a0_1, .int .i64 a0_2, .int .i64 a0_3, .string a0_4, .string a0_5] 26 (0, 0)) (by (with_reducible repeat (first | refine blk_drewN ?_ _ | refine blk_drew ?_ | refine blk_alloc ?_ _)); exact BK185.out) hb); have n1_ := Aside0.mk (below_step (by repeat (first | (with_reducible first | exact HB.out | apply below_alloc | apply pw_below_drewN | apply below_drew1 | refine below_set ?_ GE185.out) | exact HB.out)) hb); have n2_ := Aside0.mk (hbox); have n3_ := Aside0.mk ((by rw [hg]; exact (below_size (by repeat (first | (with_reducible first | exact HB.out | apply below_alloc | apply pw_below_drewN | apply below_drew1 | refine below_set ?_ GE185.out) | exact HB.out))) : w.heap.size ≤ gb186)); have n4_ := Aside0.mk ((by rw [hg]; exact (below_size (by repeat (first | (with_reducible first | exact HB.out | apply below_alloc | apply pw_below_drewN | apply below_drew1 | refine below_set ?_ GE185.out) | exact HB.out))) : w.heap.size ≤ gb186)); have n5_ := Aside0.mk ((by rw [hg]; exact Nat.ne_of_lt (blk_lt (g := gb185) (o := .cells #[.int .i64 a0_0, .int .i64 a0_1, .int .i64 a0_2, .int .i64 a0_3, .string a0_4, .string a0_5] 26 (0, 0)) (by (with_reducible repeat (first | refine blk_drewN ?_ _ | refine blk_drew ?_ | refine blk_alloc ?_ _)); exact BK185.out)) : gb185 ≠ gb186)); have n6_ := Aside0.mk ((by rw [hg]; exact Nat.ne_of_gt (blk_lt (g := gb185) (o := .cells #[.int .i64 a0_0, .int .i64 a0_1, .int .i64 a0_2, .int .i64 a0_3, .string a0_4, .string a0_5] 26 (0, 0)) (by (with_reducible repeat (first | refine blk_drewN ?_ _ | refine blk_drew ?_ | refine blk_alloc ?_ _)); exact BK185.out)) : gb186 ≠ gb185)); clear BK185; clear HB; have BK185 := n0_; have HB := n1_; have BK186 := n2_; have GW186 := n3_; have GE186 := n4_; have NB185_186 := n5_; have NB186_185 := n6_; clear n0_ n1_ n2_ n3_ n4_ n5_ n6_; clear hb hbox hg) | ((with_reducible refine gate_dst (N := 4) rfl ?_); refine box_event ?hg (N := 4) ?hd (cs := #[.int .i64 0, .int .i64 0, .int .i64 0, .int .i64 0]) (t := 24) ?hr ?_; (case hd => rfl); (case hg => rfl); (case hr => first | (go_simp; done) | (go_simp; rfl)); intro gb187 hg w6 hbox hb; have n0_ := Aside0.mk (blk_below (g := gb185) (o := .cells #[.int .i64 a0_0, .int .i64 a0_1, .int .i64 a0_2, .int .i64 a0_3, .string a0_4, .string a0_5] 26 (0, 0)) (by (with_reducible repeat (first | refine blk_drewN ?_ _ | refine blk_drew ?_ | refine blk_alloc ?_ _)); exact BK185.out) hb); have n1_ := Aside0.mk (blk_below (g := gb186) (o := .cells #[.int .i64 a1_0, .int .i64 a1_1, .int .i64 a1_2, .int .i64 a1_3, .string a1_4, .string a1_5] 26 (0, 0)) (by (with_reducible repeat (first | refine blk_drewN ?_ _ | refine blk_drew ?_ | refine blk_alloc ?_ _)); exact BK186.out) hb); have n2_ := Aside0.mk (below_step (by repeat (first | (with_reducible first | exact HB.out | apply below_alloc | apply pw_below_drewN | apply below_drew1 | refine below_set ?_ GE185.out | refine below_set ?_ GE186.out) | exact HB.out)) hb); have n3_ := Aside0.mk (hbox); have n4_ := Aside0.mk ((by rw [hg]; exact (below_size (by repeat (first | (with_reducible first | exact HB.out | apply below_alloc | apply pw_below_drewN | apply below_drew1 | refine below_set ?_ GE185.out | refine below_set ?_ GE186.out) | exact HB.out))) : w.heap.size ≤ gb187)); have n5_ := Aside0.mk ((by rw [hg]; exact (below_size (by repeat (first | (with_reducible first | exact HB.out | apply below_alloc | apply pw_below_drewN | apply below_drew1 | refine below_set ?_ GE185.out | refine below_set ?_ GE186.out) | exact HB.out))) : w.heap.size ≤ gb187)); have n6_ := Aside0.mk ((by rw [hg]; exact Nat.ne_of_lt (blk_lt (g := gb185) (o := .cells #[.int .i64 a0_0, .int .i64 a0_1, .int .i64 a0_2, .int .i64 a0_3, .string a0_4, .string a0_5] 26 (0, 0)) (by (with_reducible repeat (first | refine blk_drewN ?_ _ | refine blk_drew ?_ | refine blk_alloc ?_ _)); exact BK185.out)) : gb185 ≠ gb187)); have n7_ := Aside0.mk ((by rw [hg]; exact Nat.ne_of_gt (blk_lt (g := gb185) (o := .cells #[.int .i64 a0_0, .int .i64 a0_1, .int .i64 a0_2, .int .i64 a0_3, .string a0_4, .string a0_5] 26 (0, 0)) (by (with_reducible repeat (first | refine blk_drewN ?_ _ | refine blk_drew ?_ | refine blk_alloc ?_ _)); exact BK185.out)) : gb187 ≠ gb185)); have n8_ := Aside0.mk ((by rw [hg]; exact Nat.ne_of_lt (blk_lt (g := gb186) (o := .cells #[.int .i64 a1_0, .int .i64 a1_1, .int .i64 a1_2, .int .i64 a1_3, .string a1_4, .string a1_5] 26 (0, 0)) (by (with_reducible repeat (first | refine blk_drewN ?_ _ | refine blk_drew ?_ | refine blk_alloc ?_ _)); exact BK186.out)) : gb186 ≠ gb187)); have n9_ := Aside0.mk ((by rw [hg]; exact Nat.ne_of_gt (blk_lt (g := gb186) (o := .cells #[.int .i64 a1_0, .int .i64 a1_1, .int .i64 a1_2, .int .i64 a1_3, .string a1_4, .string a1_5] 26 (0, 0)) (by (with_reducible repeat (first | refine blk_drewN ?_ _ | refine blk_drew ?_ | refine blk_alloc ?_ _)); exact BK186.out)) : gb187 ≠ gb186)); clear BK185; clear BK186; clear HB; have BK185 := n0_; have BK186 := n1_; have HB := n2_; have BK187 := n3_; have GW187 := n4_; have GE187 := n5_; have NB185_187 := n6_; have NB187_185 := n7_; have NB186_187 := n8_; have NB187_186 := n9_; clear n0_ n1_ n2_ n3_ n4_ n5_ n6_ n7_ n8_ n9_; clear hb hbox hg; have hnb7 := NB185_186.out; have hnc7 := NB186_185.out; have hnb8 := NB185_187.out; have hnc8 := NB187_185.out; have hcz9_0 : w6.cell? ⟨gb185, 0, none⟩ = some (.int .i64 a0_0) := (blk_cell BK185.out 0).trans rfl; have hcz9_1 : w6.cell? ⟨gb185, 1, none⟩ = some (.int .i64 a0_1) := (blk_cell BK185.out 1).trans rfl; have hcz9_2 : w6.cell? ⟨gb185, 2, none⟩ = some (.int .i64 a0_2) := (blk_cell BK185.out 2).trans rfl; have hcz9_3 : w6.cell? ⟨gb185, 3, none⟩ = some (.int .i64 a0_3) := (blk_cell BK185.out 3).trans rfl; have hcz9_4 : w6.cell? ⟨gb185, 4, none⟩ = some (.string a0_4) := (blk_cell BK185.out 4).trans rfl; have hcz9_5 : w6.cell? ⟨gb185, 5, none⟩ = some (.string a0_5) := (blk_cell BK185.out 5).trans rfl; have hfz9_0 := blk_frozen BK185.out 0; have hfz9_1 := blk_frozen BK185.out 1; have hfz9_2 := blk_frozen BK185.out 2; have hfz9_3 := blk_frozen BK185.out 3; have hfz9_4 := blk_frozen BK185.out 4; have hfz9_5 := blk_frozen BK185.out 5; have hnb10 := NB186_187.out; have hnc10 := NB187_186.out; have hcz11_0 : w6.cell? ⟨gb186, 0, none⟩ = some (.int .i64 a1_0) := (blk_cell BK186.out 0).trans rfl; have hcz11_1 : w6.cell? ⟨gb186, 1, none⟩ = some (.int .i64 a1_1) := (blk_cell BK186.out 1).trans rfl; have hcz11_2 : w6.cell? ⟨gb186, 2, none⟩ = some (.int .i64 a1_2) := (blk_cell BK186.out 2).trans rfl; have hcz11_3 : w6.cell? ⟨gb186, 3, none⟩ = some (.int .i64 a1_3) := (blk_cell BK186.out 3).trans rfl; have hcz11_4 : w6.cell? ⟨gb186, 4, none⟩ = some (.string a1_4) := (blk_cell BK186.out 4).trans rfl; have hcz11_5 : w6.cell? ⟨gb186, 5, none⟩ = some (.string a1_5) := (blk_cell BK186.out 5).trans rfl; have hfz11_0 := blk_frozen BK186.out 0; have hfz11_1 := blk_frozen BK186.out 1; have hfz11_2 := blk_frozen BK186.out 2; have hfz11_3 := blk_frozen BK186.out 3; have hfz11_4 := blk_frozen BK186.out 4; have hfz11_5 := blk_frozen BK186.out 5) | ((with_reducible refine gate_callee (f := 32) rfl ?_); refine goesL_ (some 12) rfl rfl Tryd.func32 (by kernel_rfl) rfl #[.agg #[.int .i64 a0_0, .int .i64 a0_1, .int .i64 a0_2, .int .i64 a0_3, .string a0_4, .string a0_5], .agg #[.int .i64 a1_0, .int .i64 a1_1, .int .i64 a1_2, .int .i64 a1_3, .string a1_4, .string a1_5]] rfl (by (try simp only [List.map_toArray, List.map_cons, List.map_nil]); first | done | rfl | (simp only [List.length_drop, List.length_take]; rfl)) ?_; (with_reducible refine (weld_both.calls k a0_0 a0_1 a0_2 a0_3 a0_4 a0_5 a1_0 a1_1 a1_2 a1_3 a1_4 a1_5 t188 t189 t190 t191 t192 t193 t194 t195 t196 t197 t198 _ ?side1 A3.out).mono ?_); (case side1 => first | (with_reducible exact HG.out) | exact Glob.Globs_below HG.out (by repeat (first | (with_reducible first | exact HB.out | apply below_alloc | apply pw_below_drewN | apply below_drew1 | refine below_set ?_ GE185.out | refine below_set ?_ GE186.out | refine below_set ?_ GE187.out) | exact HB.out))); rintro e w12 ⟨rfl, hb⟩; refine ⟨_, rfl, ?_⟩; have n0_ := Aside0.mk (blk_below (g := gb185) (o := .cells #[.int .i64 a0_0, .int .i64 a0_1, .int .i64 a0_2, .int .i64 a0_3, .string a0_4, .string a0_5] 26 (0, 0)) (by (with_reducible repeat (first | refine blk_drewN ?_ _ | refine blk_drew ?_ | refine blk_alloc ?_ _)); exact BK185.out) hb); have n1_ := Aside0.mk (blk_below (g := gb186) (o := .cells #[.int .i64 a1_0, .int .i64 a1_1, .int .i64 a1_2, .int .i64 a1_3, .string a1_4, .string a1_5] 26 (0, 0)) (by (with_reducible repeat (first | refine blk_drewN ?_ _ | refine blk_drew ?_ | refine blk_alloc ?_ _)); exact BK186.out) hb); have n2_ := Aside0.mk (blk_below (g := gb187) (o := .cells #[.int .i64 0, .int .i64 0, .int .i64 0, .int .i64 0] 24 (0, 0)) (by (with_reducible repeat (first | refine blk_drewN ?_ _ | refine blk_drew ?_ | refine blk_alloc ?_ _)); exact BK187.out) hb); have n3_ := Aside0.mk (below_step (by repeat (first | (with_reducible first | exact HB.out | apply below_alloc | apply pw_below_drewN | apply below_drew1 | refine below_set ?_ GE185.out | refine below_set ?_ GE186.out | refine below_set ?_ GE187.out) | exact HB.out)) hb); clear BK185; clear BK186; clear BK187; clear HB; have BK185 := n0_; have BK186 := n1_; have BK187 := n2_; have HB := n3_; clear n0_ n1_ n2_ n3_; (try clear hb); (try clear hb2); (try clear hk); (try clear hi)) | ((with_reducible refine gate_dst (N := 6) rfl ?_); refine box_event ?hg (N := 6) ?hd (cs := #[.int .i64 0, .int .i64 0, .int .i64 0, .int .i64 0, .string (⟨#[]⟩ : ByteArray), .string (⟨#[]⟩ : ByteArray)]) (t := 26) ?hr ?_; (case hd => rfl); (case hg => rfl); (case hr => first | (go_simp; done) | (go_simp; rfl)); intro gb199 hg w13 hbox hb; have n0_ := Aside0.mk (blk_below (g := gb185) (o := .cells #[.int .i64 a0_0, .int .i64 a0_1, .int .i64 a0_2, .int .i64 a0_3, .string a0_4, .string a0_5] 26 (0, 0)) (by (with_reducible repeat (first | refine blk_drewN ?_ _ | refine blk_drew ?_ | refine blk_alloc ?_ _)); exact BK185.out) hb); have n1_ := Aside0.mk (blk_below (g := gb186) (o := .cells #[.int .i64 a1_0, .int .i64 a1_1, .int .i64 a1_2, .int .i64 a1_3, .string a1_4, .string a1_5] 26 (0, 0)) (by (with_reducible repeat (first | refine blk_drewN ?_ _ | refine blk_drew ?_ | refine blk_alloc ?_ _)); exact BK186.out) hb); have n2_ := Aside0.mk (blk_below (g := gb187) (o := .cells #[.int .i64 0, .int .i64 0, .int .i64 0, .int .i64 0] 24 (0, 0)) (by (with_reducible repeat (first | refine blk_drewN ?_ _ | refine blk_drew ?_ | refine blk_alloc ?_ _)); exact BK187.out) hb); have n3_ := Aside0.mk (below_step (by repeat (first | (with_reducible first | exact HB.out | apply below_alloc | apply pw_below_drewN | apply below_drew1 | refine below_set ?_ GE185.out | refine below_set ?_ GE186.out | refine below_set ?_ GE187.out) | exact HB.out)) hb); have n4_ := Aside0.mk (hbox); have n5_ := Aside0.mk ((by rw [hg]; exact (below_size (by repeat (first | (with_reducible first | exact HB.out | apply below_alloc | apply pw_below_drewN | apply below_drew1 | refine below_set ?_ GE185.out | refine below_set ?_ GE186.out | refine below_set ?_ GE187.out) | exact HB.out))) : w.heap.size ≤ gb199)); have n6_ := Aside0.mk ((by rw [hg]; exact (below_size (by repeat (first | (with_reducible first | exact HB.out | apply below_alloc | apply pw_below_drewN | apply below_drew1 | refine below_set ?_ GE185.out | refine below_set ?_ GE186.out | refine below_set ?_ GE187.out) | exact HB.out))) : w.heap.size ≤ gb199)); have n7_ := Aside0.mk ((by rw [hg]; exact Nat.ne_of_lt (blk_lt (g := gb185) (o := .cells #[.int .i64 a0_0, .int .i64 a0_1, .int .i64 a0_2, .int .i64 a0_3, .string a0_4, .string a0_5] 26 (0, 0)) (by (with_reducible repeat (first | refine blk_drewN ?_ _ | refine blk_drew ?_ | refine blk_alloc ?_ _)); exact BK185.out)) : gb185 ≠ gb199)); have n8_ := Aside0.mk ((by rw [hg]; exact Nat.ne_of_gt (blk_lt (g := gb185) (o := .cells #[.int .i64 a0_0, .int .i64 a0_1, .int .i64 a0_2, .int .i64 a0_3, .string a0_4, .string a0_5] 26 (0, 0)) (by (with_reducible repeat (first | refine blk_drewN ?_ _ | refine blk_drew ?_ | refine blk_alloc ?_ _)); exact BK185.out)) : gb199 ≠ gb185)); have n9_ := Aside0.mk ((by rw [hg]; exact Nat.ne_of_lt (blk_lt (g := gb186) (o := .cells #[.int .i64 a1_0, .int .i64 a1_1, .int .i64 a1_2, .int .i64 a1_3, .string a1_4, .string a1_5] 26 (0, 0)) (by (with_reducible repeat (first | refine blk_drewN ?_ _ | refine blk_drew ?_ | refine blk_alloc ?_ _)); exact BK186.out)) : gb186 ≠ gb199)); have n10_ := Aside0.mk ((by rw [hg]; exact Nat.ne_of_gt (blk_lt (g := gb186) (o := .cells #[.int .i64 a1_0, .int .i64 a1_1, .int .i64 a1_2, .int .i64 a1_3, .string a1_4, .string a1_5] 26 (0, 0)) (by (with_reducible repeat (first | refine blk_drewN ?_ _ | refine blk_drew ?_ | refine blk_alloc ?_ _)); exact BK186.out)) : gb199 ≠ gb186)); have n11_ := Aside0.mk ((by rw [hg]; exact Nat.ne_of_lt (blk_lt (g := gb187) (o := .cells #[.int .i64 0, .int .i64 0, .int .i64 0, .int .i64 0] 24 (0, 0)) (by (with_reducible repeat (first | refine blk_drewN ?_ _ | refine blk_drew ?_ | refine blk_alloc ?_ _)); exact BK187.out)) : gb187 ≠ gb199)); have n12_ := Aside0.mk ((by rw [hg]; exact Nat.ne_of_gt (blk_lt (g := gb187) (o := .cells #[.int .i64 0, .int .i64 0, .int .i64 0, .int .i64 0] 24 (0, 0)) (by (with_reducible repeat (first | refine blk_drewN ?_ _ | refine blk_drew ?_ | refine blk_alloc ?_ _)); exact BK187.out)) : gb199 ≠ gb187)); clear BK185; clear BK186; clear BK187; clear HB; have BK185 := n0_; have BK186 := n1_; have BK187 := n2_; have HB := n3_; have BK199 := n4_; have GW199 := n5_; have GE199 := n6_; have NB185_199 := n7_; have NB199_185 := n8_; have NB186_199 := n9_; have NB199_186 := n10_; have NB187_199 := n11_; have NB199_187 := n12_; clear n0_ n1_ n2_ n3_ n4_ n5_ n6_ n7_ n8_ n9_ n10_ n11_ n12_; clear hb hbox hg) | ((with_reducible refine gate_dst (N := 7) rfl ?_); refine box_event ?hg (N := 7) ?hd (cs := #[.int .i64 0, .int .i64 0, .int .i64 0, .int .i64 0]) (t := 24) ?hr ?_; (case hd => rfl); (case hg => rfl); (case hr => first | (go_simp; done) | (go_simp; rfl)); intro gb200 hg w14 hbox hb; have n0_ := Aside0.mk (blk_below (g := gb185) (o := .cells #[.int .i64 a0_0, .int .i64 a0_1, .int .i64 a0_2, .int .i64 a0_3, .string a0_4, .string a0_5] 26 (0, 0)) (by (with_reducible repeat (first | refine blk_drewN ?_ _ | refine blk_drew ?_ | refine blk_alloc ?_ _)); exact BK185.out) hb); have n1_ := Aside0.mk (blk_below (g := gb186) (o := .cells #[.int .i64 a1_0, .int .i64 a1_1, .int .i64 a1_2, .int .i64 a1_3, .string a1_4, .string a1_5] 26 (0, 0)) (by (with_reducible repeat (first | refine blk_drewN ?_ _ | refine blk_drew ?_ | refine blk_alloc ?_ _)); exact BK186.out) hb); have n2_ := Aside0.mk (blk_below (g := gb187) (o := .cells #[.int .i64 0, .int .i64 0, .int .i64 0, .int .i64 0] 24 (0, 0)) (by (with_reducible repeat (first | refine blk_drewN ?_ _ | refine blk_drew ?_ | refine blk_alloc ?_ _)); exact BK187.out) hb); have n3_ := Aside0.mk (blk_below (g := gb199) (o := .cells #[.int .i64 0, .int .i64 0, .int .i64 0, .int .i64 0, .string (⟨#[]⟩ : ByteArray), .string (⟨#[]⟩ : ByteArray)] 26 (0, 0)) (by (with_reducible repeat (first | refine blk_drewN ?_ _ | refine blk_drew ?_ | refine blk_alloc ?_ _)); exact BK199.out) hb); have n4_ := Aside0.mk (below_step (by repeat (first | (with_reducible first | exact HB.out | apply below_alloc | apply pw_below_drewN | apply below_drew1 | refine below_set ?_ GE185.out | refine below_set ?_ GE186.out | refine below_set ?_ GE187.out | refine below_set ?_ GE199.out) | exact HB.out)) hb); have n5_ := Aside0.mk (hbox); have n6_ := Aside0.mk ((by rw [hg]; exact (below_size (by repeat (first | (with_reducible first | exact HB.out | apply below_alloc | apply pw_below_drewN | apply below_drew1 | refine below_set ?_ GE185.out | refine below_set ?_ GE186.out | refine below_set ?_ GE187.out | refine below_set ?_ GE199.out) | exact HB.out))) : w.heap.size ≤ gb200)); have n7_ := Aside0.mk ((by rw [hg]; exact (below_size (by repeat (first | (with_reducible first | exact HB.out | apply below_alloc | apply pw_below_drewN | apply below_drew1 | refine below_set ?_ GE185.out | refine below_set ?_ GE186.out | refine below_set ?_ GE187.out | refine below_set ?_ GE199.out) | exact HB.out))) : w.heap.size ≤ gb200)); have n8_ := Aside0.mk ((by rw [hg]; exact Nat.ne_of_lt (blk_lt (g := gb185) (o := .cells #[.int .i64 a0_0, .int .i64 a0_1, .int .i64 a0_2, .int .i64 a0_3, .string a0_4, .string a0_5] 26 (0, 0)) (by (with_reducible repeat (first | refine blk_drewN ?_ _ | refine blk_drew ?_ | refine blk_alloc ?_ _)); exact BK185.out)) : gb185 ≠ gb200)); have n9_ := Aside0.mk ((by rw [hg]; exact Nat.ne_of_gt (blk_lt (g := gb185) (o := .cells #[.int .i64 a0_0, .int .i64 a0_1, .int .i64 a0_2, .int .i64 a0_3, .string a0_4, .string a0_5] 26 (0, 0)) (by (with_reducible repeat (first | refine blk_drewN ?_ _ | refine blk_drew ?_ | refine blk_alloc ?_ _)); exact BK185.out)) : gb200 ≠ gb185)); have n10_ := Aside0.mk ((by rw [hg]; exact Nat.ne_of_lt (blk_lt (g := gb186) (o := .cells #[.int .i64 a1_0, .int .i64 a1_1, .int .i64 a1_2, .int .i64 a1_3, .string a1_4, .string a1_5] 26 (0, 0)) (by (with_reducible repeat (first | refine blk_drewN ?_ _ | refine blk_drew ?_ | refine blk_alloc ?_ _)); exact BK186.out)) : gb186 ≠ gb200)); have n11_ := Aside0.mk ((by rw [hg]; exact Nat.ne_of_gt (blk_lt (g := gb186) (o := .cells #[.int .i64 a1_0, .int .i64 a1_1, .int .i64 a1_2, .int .i64 a1_3, .string a1_4, .string a1_5] 26 (0, 0)) (by (with_reducible repeat (first | refine blk_drewN ?_ _ | refine blk_drew ?_ | refine blk_alloc ?_ _)); exact BK186.out)) : gb200 ≠ gb186)); have n12_ := Aside0.mk ((by rw [hg]; exact Nat.ne_of_lt (blk_lt (g := gb187) (o := .cells #[.int .i64 0, .int .i64 0, .int .i64 0, .int .i64 0] 24 (0, 0)) (by (with_reducible repeat (first | refine blk_drewN ?_ _ | refine blk_drew ?_ | refine blk_alloc ?_ _)); exact BK187.out)) : gb187 ≠ gb200)); have n13_ := Aside0.mk ((by rw [hg]; exact Nat.ne_of_gt (blk_lt (g := gb187) (o := .cells #[.int .i64 0, .int .i64 0, .int .i64 0, .int .i64 0] 24 (0, 0)) (by (with_reducible repeat (first | refine blk_drewN ?_ _ | refine blk_drew ?_ | refine blk_alloc ?_ _)); exact BK187.out)) : gb200 ≠ gb187)); have n14_ := Aside0.mk ((by rw [hg]; exact Nat.ne_of_lt (blk_lt (g := gb199) (o := .cells #[.int .i64 0, .int .i64 0, .int .i64 0, .int .i64 0, .string (⟨#[]⟩ : ByteArray), .string (⟨#[]⟩ : ByteArray)] 26 (0, 0)) (by (with_reducible repeat (first | refine blk_drewN ?_ _ | refine blk_drew ?_ | refine blk_alloc ?_ _)); exact BK199.out)) : gb199 ≠ gb200)); have n15_ := Aside0.mk ((by rw [hg]; exact Nat.ne_of_gt (blk_lt (g := gb199) (o := .cells #[.int .i64 0, .int .i64 0, .int .i64 0, .int .i64 0, .string (⟨#[]⟩ : ByteArray), .string (⟨#[]⟩ : ByteArray)] 26 (0, 0)) (by (with_reducible repeat (first | refine blk_drewN ?_ _ | refine blk_drew ?_ | refine blk_alloc ?_ _)); exact BK199.out)) : gb200 ≠ gb199)); clear BK185; clear BK186; clear BK187; clear BK199; clear HB; have BK185 := n0_; have BK186 := n1_; have BK187 := n2_; have BK199 := n3_; have HB := n4_; have BK200 := n5_; have GW200 := n6_; have GE200 := n7_; have NB185_200 := n8_; have NB200_185 := n9_; have NB186_200 := n10_; have NB200_186 := n11_; have NB187_200 := n12_; have NB200_187 := n13_; have NB199_200 := n14_; have NB200_199 := n15_; clear n0_ n1_ n2_ n3_ n4_ n5_ n6_ n7_ n8_ n9_ n10_ n11_ n12_ n13_ n14_ n15_; clear hb hbox hg; have hnb15 := NB199_185.out; have hnc15 := NB185_199.out; have hnb16 := NB199_186.out; have hnc16 := NB186_199.out; have hnb17 := NB199_187.out; have hnc17 := NB187_199.out; have hnb18 := NB199_200.out; have hnc18 := NB200_199.out; have hcz19_0 : w14.cell? ⟨gb199, 0, none⟩ = some (.int .i64 0) := (blk_cell BK199.out 0).trans rfl; have hcz19_1 : w14.cell? ⟨gb199, 1, none⟩ = some (.int .i64 0) := (blk_cell BK199.out 1).trans rfl; have hcz19_2 : w14.cell? ⟨gb199, 2, none⟩ = some (.int .i64 0) := (blk_cell BK199.out 2).trans rfl; have hcz19_3 : w14.cell? ⟨gb199, 3, none⟩ = some (.int .i64 0) := (blk_cell BK199.out 3).trans rfl; have hcz19_4 : w14.cell? ⟨gb199, 4, none⟩ = some (.string (⟨#[]⟩ : ByteArray)) := (blk_cell BK199.out 4).trans rfl; have hcz19_5 : w14.cell? ⟨gb199, 5, none⟩ = some (.string (⟨#[]⟩ : ByteArray)) := (blk_cell BK199.out 5).trans rfl; have hfz19_0 := blk_frozen BK199.out 0; have hfz19_1 := blk_frozen BK199.out 1; have hfz19_2 := blk_frozen BK199.out 2; have hfz19_3 := blk_frozen BK199.out 3; have hfz19_4 := blk_frozen BK199.out 4; have hfz19_5 := blk_frozen BK199.out 5; have hnb20 := NB200_185.out; have hnc20 := NB185_200.out; have hnb21 := NB200_186.out; have hnc21 := NB186_200.out; have hnb22 := NB200_187.out; have hnc22 := NB187_200.out; have hcz23_0 : w14.cell? ⟨gb200, 0, none⟩ = some (.int .i64 0) := (blk_cell BK200.out 0).trans rfl; have hcz23_1 : w14.cell? ⟨gb200, 1, none⟩ = some (.int .i64 0) := (blk_cell BK200.out 1).trans rfl; have hcz23_2 : w14.cell? ⟨gb200, 2, none⟩ = some (.int .i64 0) := (blk_cell BK200.out 2).trans rfl; have hcz23_3 : w14.cell? ⟨gb200, 3, none⟩ = some (.int .i64 0) := (blk_cell BK200.out 3).trans rfl; have hfz23_0 := blk_frozen BK200.out 0; have hfz23_1 := blk_frozen BK200.out 1; have hfz23_2 := blk_frozen BK200.out 2; have hfz23_3 := blk_frozen BK200.out 3; have hcz24_0 : w14.cell? ⟨gb187, 0, none⟩ = some (.int .i64 0) := (blk_cell BK187.out 0).trans rfl; have hcz24_1 : w14.cell? ⟨gb187, 1, none⟩ = some (.int .i64 0) := (blk_cell BK187.out 1).trans rfl; have hcz24_2 : w14.cell? ⟨gb187, 2, none⟩ = some (.int .i64 0) := (blk_cell BK187.out 2).trans rfl; have hcz24_3 : w14.cell? ⟨gb187, 3, none⟩ = some (.int .i64 0) := (blk_cell BK187.out 3).trans rfl; have hfz24_0 := blk_frozen BK187.out 0; have hfz24_1 := blk_frozen BK187.out 1; have hfz24_2 := blk_frozen BK187.out 2; have hfz24_3 := blk_frozen BK187.out 3))
 refine bodyPost_ret (results_ct rfl _ _ gb187 24 #[.int .i64 t194, .int .i64 t195, .int .i64 t196, .int .i64 t197] (0, 0) _ rfl (by (with_reducible repeat (first | refine blk_drewN ?_ _ | refine blk_drew ?_ | refine blk_alloc ?_ _)); refine blk_put (cs := #[.int .i64 t194, .int .i64 t195, .int .i64 t196, .int .i64 0]) ?_ 3 _ rfl; (with_reducible repeat (first | refine blk_drewN ?_ _ | refine blk_drew ?_ | refine blk_alloc ?_ _)); refine blk_put (cs := #[.int .i64 t194, .int .i64 t195, .int .i64 0, .int .i64 0]) ?_ 2 _ rfl; (with_reducible repeat (first | refine blk_drewN ?_ _ | refine blk_drew ?_ | refine blk_alloc ?_ _)); refine blk_put (cs := #[.int .i64 t194, .int .i64 0, .int .i64 0, .int .i64 0]) ?_ 1 _ rfl; (with_reducible repeat (first | refine blk_drewN ?_ _ | refine blk_drew ?_ | refine blk_alloc ?_ _)); refine blk_put (cs := #[.int .i64 0, .int .i64 0, .int .i64 0, .int .i64 0]) ?_ 0 _ rfl; (with_reducible repeat (first | refine blk_drewN ?_ _ | refine blk_drew ?_ | refine blk_alloc ?_ _)); refine blk_far ?_ NB187_200.out _; (with_reducible repeat (first | refine blk_drewN ?_ _ | refine blk_drew ?_ | refine blk_alloc ?_ _)); refine blk_far ?_ NB187_200.out _; (with_reducible repeat (first | refine blk_drewN ?_ _ | refine blk_drew ?_ | refine blk_alloc ?_ _)); refine blk_far ?_ NB187_200.out _; (with_reducible repeat (first | refine blk_drewN ?_ _ | refine blk_drew ?_ | refine blk_alloc ?_ _)); refine blk_far ?_ NB187_200.out _; (with_reducible repeat (first | refine blk_drewN ?_ _ | refine blk_drew ?_ | refine blk_alloc ?_ _)); refine blk_far ?_ NB187_199.out _; (with_reducible repeat (first | refine blk_drewN ?_ _ | refine blk_drew ?_ | refine blk_alloc ?_ _)); refine blk_far ?_ NB187_199.out _; (with_reducible repeat (first | refine blk_drewN ?_ _ | refine blk_drew ?_ | refine blk_alloc ?_ _)); refine blk_far ?_ NB187_199.out _; (with_reducible repeat (first | refine blk_drewN ?_ _ | refine blk_drew ?_ | refine blk_alloc ?_ _)); refine blk_far ?_ NB187_199.out _; (with_reducible repeat (first | refine blk_drewN ?_ _ | refine blk_drew ?_ | refine blk_alloc ?_ _)); refine blk_far ?_ NB187_199.out _; (with_reducible repeat (first | refine blk_drewN ?_ _ | refine blk_drew ?_ | refine blk_alloc ?_ _)); refine blk_far ?_ NB187_199.out _; (with_reducible repeat (first | refine blk_drewN ?_ _ | refine blk_drew ?_ | refine blk_alloc ?_ _)); exact BK187.out) Tryd.underlying24 rfl (by kernel_rfl)) rfl ?_
 exact ⟨by first | rfl | (simp [errW_none, errW_some] <;> rfl) | (simp [*, errW_none, errW_some] <;> rfl), by repeat (first | (with_reducible first | exact HB.out | apply below_alloc | apply pw_below_drewN | apply below_drew1 | refine below_set ?_ GE185.out | refine below_set ?_ GE186.out | refine below_set ?_ GE187.out | refine below_set ?_ GE199.out | refine below_set ?_ GE200.out) | exact HB.out)⟩
end Go.Proofs.YtaojbcplmdjfnaaDoor.Pr

namespace Go.Proofs.YtaojbcplmdjfnaaDoor.Open
open Go.ChangeShapes Go.WideShapes Go.ChangeAt Go.RowKit Go.Deep Go.Proofs.YtaojbcplmdjfnaaDoor.Pr Go.Proofs.YtaojbcplmdjfnaaDoorW.PrintWords
set_option linter.unusedVariables false
set_option linter.unusedSimpArgs false
theorem cInt : Tryd.prog.cellsOf 3 = 1 := by kernel_rfl
theorem cU8 : Tryd.prog.cellsOf 5 = 1 := by kernel_rfl
theorem cBs : Tryd.prog.cellsOf 29 = 1 := by kernel_rfl
theorem cWeld : Tryd.prog.cellsOf 26 = 6 := by kernel_rfl
section
variable {H : Type} {enc : TypeId × Value → H} {W : World} {base : Nat} {sp : Nat → Bool} {held : Bool}
theorem welds_arg {r : Reach} {b0 : Nat} {v : Value} {d : DataW H} {p : List MemPlace} (h : DataW.Trod enc Tryd.prog W base (fun _ => true) held 27 v d p) :
    ∃ (A : Option Addr) (c : Nat) (l : List S26), v.cells.toList = [.slice A l.length c] ∧ Kd.C k26 W A l.length l ∧ l.length ≤ c ∧ c ≤ maxLen ∧ ∀ x ∈ l, I64 x.f0.f1 ∧ I64 x.f0.f2 := by
  obtain ⟨fuel, hf⟩ := h
  rcases open_slice Tryd.underlying27 hf with ⟨e, _⟩ | ⟨a, len, cap, m, n, D, Pl, e, _, hl, hm, hmm, _, hx⟩
  · exact ⟨none, 0, [], e, ⟨rfl, by simp, fun h => by simp at h⟩, Nat.le_refl _, Nat.zero_le _, by simp⟩
  · simp only [if_true] at hmm
    subst hmm
    have each : ∀ i, i < len → ∃ x : S26, W.cells? base (a.add (i * 6)) 6 = some [.int .i64 x.f0.f0, .int .i64 x.f0.f1, .int .i64 x.f0.f2, .int .i64 x.f0.f3, .string x.f1, .string x.f2] ∧ I64 x.f0.f1 ∧ I64 x.f0.f2 := by
      intro i hi
      obtain ⟨cs', h1, h2⟩ := hx i (by omega)
      obtain ⟨a, b, c, d, s, t, e, hb, hc⟩ := weld_open h2
      rw [cWeld] at h1
      exact ⟨⟨⟨a, b, c, d⟩, s, t⟩, by rw [h1, e], hb, hc⟩
    haveI : Inhabited S26 := ⟨z26⟩
    obtain ⟨x, hx'⟩ := choose_lt (α := S26) each
    refine ⟨some a, m, (List.range len).map x, by rw [e]; simp, ⟨rfl, by simp [maxLen] at hm ⊢; omega, fun _ => ⟨a, rfl, fun j p hj => ?_⟩⟩, by simpa using hl, hm, ?_⟩
    · obtain ⟨hj1, hj2⟩ := List.getElem?_eq_some_iff.1 hj
      simp at hj1 hj2
      subst hj2
      refine ⟨_, rfl, k26_mk W (x j), fun i u hu => ?_⟩
      obtain ⟨_, _, hcell⟩ := World.cells?_some (hx' j hj1).1
      have hi : i < 6 := by
        have := (List.getElem?_eq_some_iff.1 hu).1
        simpa using this
      have hk : k26.sz = 6 := rfl
      rw [hk, ← Addr.add_add, hcell i hi]
      exact hu
    · intro y hy
      obtain ⟨i, hi, rfl⟩ := List.mem_map.1 hy
      exact (hx' i (List.mem_range.1 hi)).2
theorem bulk_lits (k : IntKind) (zs : List Int) : Rows.uptoBulkAll (H := H) (lits k zs) = zs.length := by
  induction zs with
  | nil => rfl
  | cons z zs ih =>
    show Rows.uptoBulk (H := H) (.lit (.int k z)) + Rows.uptoBulkAll (H := H) (lits k zs) = _
    rw [ih]
    show 1 + zs.length = zs.length + 1
    omega
theorem bulk_map {α : Type} (f : α → DataW H) (g : α → Nat) (l : List α) (h : ∀ x ∈ l, g x ≤ Rows.uptoBulk (f x)) : (l.map g).sum ≤ Rows.uptoBulkAll (l.map f) := by
  induction l with
  | nil => exact Nat.le_refl _
  | cons x l ih =>
    have h1 := h x (by simp)
    have h2 := ih (fun y hy => h y (by simp [hy]))
    show g x + (l.map g).sum ≤ Rows.uptoBulk (f x) + Rows.uptoBulkAll (l.map f)
    omega
theorem rows_arg {v : Value} {d : DataW H} {p : List MemPlace} (h : DataW.Trod enc Tryd.prog W base (fun _ => true) held 47 v d p) :
    ∃ (A : Option Addr) (c : Nat) (l : List (List Int)), v.cells.toList = [.slice A l.length c] ∧ Kd.C (Kd.slice 5 (Kd.int .u8)) W A l.length l ∧ l.length ≤ c ∧ c ≤ maxLen ∧ (∀ x ∈ l, ∀ y ∈ x, (Lit.int .u8 y).wf = true) ∧ (l.map fun x => x.length + 1).sum + 1 ≤ Rows.uptoBulk d := by
  obtain ⟨fuel, hf⟩ := h
  rcases open_int_rows Tryd.underlying47 Tryd.underlying29 Tryd.underlying5 cBs cU8 hf with ⟨e, hx⟩ | ⟨a, len, cap, A, L, C, Z, e, _, hl, hm, hx, hr⟩
  · simp only [Prod.mk.injEq] at hx
    obtain ⟨rfl, _⟩ := hx
    exact ⟨none, 0, [], e, ⟨rfl, by simp, fun h => by simp at h⟩, Nat.le_refl _, Nat.zero_le _, by simp, Nat.le_refl _⟩
  · simp only [Prod.mk.injEq] at hx
    obtain ⟨rfl, _⟩ := hx
    refine ⟨some a, cap, (List.range len).map fun r => (Z r).take (L r), by rw [e]; simp, ⟨rfl, by simp [maxLen] at hm ⊢; omega, fun _ => ⟨a, rfl, fun j p hj => ?_⟩⟩, by simpa using hl, hm, ?_, ?_⟩
    · obtain ⟨hj1, hj2⟩ := List.getElem?_eq_some_iff.1 hj
      simp at hj1 hj2
      subst hj2
      obtain ⟨q1, q2, q3, q4, q5, q6, q7⟩ := hr j (by omega)
      have hlen : ((Z j).take (L j)).length = L j := by rw [List.length_take]; omega
      refine ⟨[.slice (A j) (L j) (C j)], rfl, ⟨A j, C j, by rw [hlen], by rw [hlen]; exact q2, ?_⟩, fun i u hu => ?_⟩
      · rw [hlen]
        refine Kd.C_of_reads (d := (0 : Int)) (h1 := fun _ => rfl) ⟨hlen, by unfold maxLen at q3; omega, fun hp => ?_⟩
        cases hA : A j with
        | none => have := q6 hA; omega
        | some a' =>
          refine ⟨a', rfl, fun i hi => ?_⟩
          rw [(q7 a' hA).2 i (by omega)]
          simp [List.getD, List.getElem?_take, hi]
      · cases i with
        | zero =>
          simp at hu
          subst hu
          have hk : (Kd.slice 5 (Kd.int .u8)).sz = 1 := rfl
          rw [hk, Nat.mul_one, Nat.add_zero]
          exact q1
        | succ i => simp at hu
    · intro x hx y hy
      obtain ⟨r, hr', rfl⟩ := List.mem_map.1 hx
      exact (hr r (by have := List.mem_range.1 hr'; omega)).2.2.2.2.1 y (List.mem_of_mem_take hy)
    · show _ ≤ Rows.uptoBulkAll _ + Rows.uptoBulkAll _ + 1
      have := bulk_map (H := H) (fun r => intRow IntKind.u8 (A r) (L r) (Z r)) (fun r => ((Z r).take (L r)).length + 1) (List.range len) (fun r hr' => by
        obtain ⟨q1, q2, q3, q4, q5, q6, q7⟩ := hr r (by have := List.mem_range.1 hr'; omega)
        unfold intRow
        cases hA : A r with
        | none =>
          have hc0 := q6 hA
          have hz : (Z r).take (L r) = [] := List.length_eq_zero_iff.1 (by rw [List.length_take]; omega)
          simp only [hz]
          exact Nat.le_refl _
        | some a' =>
          show _ ≤ Rows.uptoBulkAll (lits IntKind.u8 ((Z r).take (L r))) + Rows.uptoBulkAll (lits IntKind.u8 ((Z r).drop (L r))) + 1
          rw [bulk_lits, bulk_lits]
          omega)
      rw [List.map_map]
      have e2 : ((List.range len).map ((fun x => x.length + 1) ∘ fun r => (Z r).take (L r))).sum = ((List.range len).map fun r => ((Z r).take (L r)).length + 1).sum := rfl
      omega
theorem flat_len (l : List (List Int)) : l.flatten.length + l.length = (l.map fun x => x.length + 1).sum := by
  induction l with
  | nil => rfl
  | cons x l ih => rw [List.flatten_cons, List.length_append, List.length_cons, List.map_cons, List.sum_cons]; omega
theorem rows_small {l : List (List Int)} {d : DataW H} (B : (l.map fun x => x.length + 1).sum + 1 ≤ Rows.uptoBulk d) (h : Rows.uptoBulkAll ([d] ++ []) ≤ 1048576) : l.flatten.length ≤ 1048576 ∧ l.length ≤ 1048576 := by
  have h1 : Rows.uptoBulk d ≤ 1048576 := Nat.le_trans (Nat.le_add_right _ _) h
  have := flat_len l
  omega
end
end Go.Proofs.YtaojbcplmdjfnaaDoor.Open

namespace Go.Proofs.YtaojbcplmdjfnaaDoor.Math
open Go.RowKit
set_option linter.unusedVariables false
set_option linter.unusedSimpArgs false
def Byt (l : List Int) : Prop := ∀ x ∈ l, 0 ≤ x ∧ x ≤ 255
theorem Byt.of_wf {l : List Int} (h : ∀ x ∈ l, (Lit.int .u8 x).wf = true) : Byt l := fun x hx => bounds_u8 (h x hx)
def cls (b : Int) : Int := if b < 128 then 1 else if b < 192 then 2 else if b < 194 then 6 else if b < 224 then 3 else if b < 240 then 4 else if b < 245 then 5 else 6
def need (b : Int) : Int := if b < 128 then 1 else if b < 194 then 0 else if b < 224 then 2 else if b < 240 then 3 else if b < 245 then 4 else 0
def sec (a b : Int) : Bool :=
  if a = 224 then decide (160 ≤ b ∧ b ≤ 191) else if a = 237 then decide (128 ≤ b ∧ b ≤ 159) else if a = 240 then decide (144 ≤ b ∧ b ≤ 191)
  else if a = 244 then decide (128 ≤ b ∧ b ≤ 143) else if need a > 1 then decide (128 ≤ b ∧ b ≤ 191) else false
def tl (b : Int) : Bool := decide (128 ≤ b ∧ b ≤ 191)
def whole : List Int → Bool
  | [x0] => decide (need x0 = 1)
  | [x0, x1] => decide (need x0 = 2) && sec x0 x1
  | [x0, x1, x2] => decide (need x0 = 3) && (sec x0 x1 && tl x2)
  | [x0, x1, x2, x3] => decide (need x0 = 4) && (sec x0 x1 && (tl x2 && tl x3))
  | _ => false
def num : List Int → Int
  | [x0] => x0
  | [x0, x1] => (x0 % 32) * 64 + x1 % 64
  | [x0, x1, x2] => ((x0 % 16) * 64 + x1 % 64) * 64 + x2 % 64
  | [x0, x1, x2, x3] => (((x0 % 8) * 64 + x1 % 64) * 64 + x2 % 64) * 64 + x3 % 64
  | _ => -1
def val (l : List Int) : Int := if whole l = true then num l else -1
def isR (r : Int) : Bool := decide (0 ≤ r ∧ r < 55296 ∨ 57343 < r ∧ r ≤ 1114111)
def enc0 (n : Int) : List Int :=
  if n < 128 then [n] else if n < 2048 then [192 + n / 64, 128 + n % 64] else if n < 65536 then [224 + n / 4096, 128 + n / 64 % 64, 128 + n % 64]
  else [240 + n / 262144, 128 + n / 4096 % 64, 128 + n / 64 % 64, 128 + n % 64]
def enc (r : Int) : List Int := if isR r = true then enc0 r else enc0 65533
theorem need_le (b : Int) : 0 ≤ need b ∧ need b ≤ 4 := by unfold need; (repeat' split) <;> omega
theorem cls_two (b : Int) (h : 0 ≤ b) (h' : b ≤ 255) : cls b = 2 ↔ 128 ≤ b ∧ b ≤ 191 := by unfold cls; (repeat' split) <;> omega
theorem sec_tail {a b : Int} (h : sec a b = true) : 128 ≤ b ∧ b ≤ 191 := by
  unfold sec at h; (repeat' split at h) <;> simp at h <;> omega
theorem wrap64_in' {n : Int} (h : -9223372036854775808 ≤ n) (h' : n ≤ 9223372036854775807) : wrap64 n = n := IntWalk.wrap64_in n ⟨h, h'⟩
theorem wrap32_in' {n : Int} (h : -2147483648 ≤ n) (h' : n ≤ 2147483647) : wrap32 n = n := by unfold wrap32; omega
theorem need_1 {x : Int} (h : x < 128) : need x = 1 := by unfold need; rw [if_pos h]
theorem need_2 {x : Int} (h : 194 ≤ x) (h' : x < 224) : need x = 2 := by unfold need; rw [if_neg (by omega), if_neg (by omega), if_pos h']
theorem need_3 {x : Int} (h : 224 ≤ x) (h' : x < 240) : need x = 3 := by unfold need; rw [if_neg (by omega), if_neg (by omega), if_neg (by omega), if_pos h']
theorem need_4 {x : Int} (h : 240 ≤ x) (h' : x < 245) : need x = 4 := by unfold need; rw [if_neg (by omega), if_neg (by omega), if_neg (by omega), if_neg (by omega), if_pos h']
theorem sec_iff (a b : Int) : sec a b = true ↔ (need a > 1 ∧ 128 ≤ b ∧ b ≤ 191 ∧ (a = 224 → 160 ≤ b) ∧ (a = 237 → b ≤ 159) ∧ (a = 240 → 144 ≤ b) ∧ (a = 244 → b ≤ 143)) := by
  unfold sec
  by_cases h1 : a = 224
  · subst h1; simp [need]; omega
  by_cases h2 : a = 237
  · subst h2; simp [need]; omega
  by_cases h3 : a = 240
  · subst h3; simp [need]; omega
  by_cases h4 : a = 244
  · subst h4; simp [need]; omega
  by_cases h5 : need a > 1 <;> simp [h1, h2, h3, h4, h5]
theorem tl_iff (b : Int) : tl b = true ↔ 128 ≤ b ∧ b ≤ 191 := by unfold tl; simp
end Go.Proofs.YtaojbcplmdjfnaaDoor.Math

namespace Go.Proofs.YtaojbcplmdjfnaaDoor.Math
set_option linter.unusedVariables false
set_option linter.unusedSimpArgs false
def lgT (x y z w : Int) : Nat :=
  if 0 ≤ x ∧ x ≤ 127 then 1
  else if (194 ≤ x ∧ x ≤ 223) ∧ (128 ≤ y ∧ y ≤ 191) then 2
  else if (128 ≤ z ∧ z ≤ 191) ∧ (x = 224 ∧ (160 ≤ y ∧ y ≤ 191) ∨ (225 ≤ x ∧ x ≤ 236) ∧ (128 ≤ y ∧ y ≤ 191) ∨ x = 237 ∧ (128 ≤ y ∧ y ≤ 159) ∨ (238 ≤ x ∧ x ≤ 239) ∧ (128 ≤ y ∧ y ≤ 191)) then 3
  else if ((128 ≤ z ∧ z ≤ 191) ∧ (128 ≤ w ∧ w ≤ 191)) ∧ (x = 240 ∧ (144 ≤ y ∧ y ≤ 191) ∨ (241 ≤ x ∧ x ≤ 243) ∧ (128 ≤ y ∧ y ≤ 191) ∨ x = 244 ∧ (128 ≤ y ∧ y ≤ 143)) then 4
  else 0
def lg : List Int → Nat
  | [] => 0
  | x :: t => lgT x (t.getD 0 (-1)) (t.getD 1 (-1)) (t.getD 2 (-1))
theorem lgT_cases (x y z w : Int) : lgT x y z w = 0 ∨ (lgT x y z w = 1 ∧ 0 ≤ x ∧ x ≤ 127) ∨ (lgT x y z w = 2 ∧ 194 ≤ x ∧ x ≤ 223 ∧ 128 ≤ y ∧ y ≤ 191) ∨ (lgT x y z w = 3 ∧ 224 ≤ x ∧ x ≤ 239 ∧ 128 ≤ y ∧ y ≤ 191 ∧ 128 ≤ z ∧ z ≤ 191) ∨
    (lgT x y z w = 4 ∧ 240 ≤ x ∧ x ≤ 244 ∧ 128 ≤ y ∧ y ≤ 191 ∧ 128 ≤ z ∧ z ≤ 191 ∧ 128 ≤ w ∧ w ≤ 191) := by
  unfold lgT; (repeat' split) <;> omega
theorem lgT_w {x y z w : Int} (w' : Int) (h : lgT x y z w = 3) : lgT x y z w' = 3 := by
  unfold lgT at *; (repeat' split at h) <;> (repeat' split) <;> omega
theorem lg_le (l : List Int) : lg l ≤ 4 := by
  cases l with
  | nil => simp [lg]
  | cons x t => have := lgT_cases x (t.getD 0 (-1)) (t.getD 1 (-1)) (t.getD 2 (-1)); show lgT _ _ _ _ ≤ 4; omega
theorem lgT_tail {x : Int} (y z w : Int) (h : 128 ≤ x ∧ x ≤ 191) : lgT x y z w = 0 := by have := lgT_cases x y z w; omega
theorem lg_tail {x : Int} (t : List Int) (h : 128 ≤ x ∧ x ≤ 191) : lg (x :: t) = 0 := lgT_tail _ _ _ h
theorem getD_m1 (t : List Int) (k : Nat) (h : t.length ≤ k) : t.getD k (-1) = -1 := by simp [List.getD, List.getElem?_eq_none h]
theorem lg_len (l : List Int) : lg l ≤ l.length := by
  cases l with
  | nil => simp [lg]
  | cons x t =>
    have h := lgT_cases x (t.getD 0 (-1)) (t.getD 1 (-1)) (t.getD 2 (-1))
    have h0 := getD_m1 t 0
    have h1 := getD_m1 t 1
    have h2 := getD_m1 t 2
    show lgT _ _ _ _ ≤ t.length + 1
    omega
theorem lg_tails (l : List Int) (i : Nat) (h1 : 1 ≤ i) (h2 : i < lg l) : 128 ≤ l.getD i (-1) ∧ l.getD i (-1) ≤ 191 := by
  cases l with
  | nil => simp [lg] at h2
  | cons x t =>
    have h := lgT_cases x (t.getD 0 (-1)) (t.getD 1 (-1)) (t.getD 2 (-1))
    have h2' : i < lgT x (t.getD 0 (-1)) (t.getD 1 (-1)) (t.getD 2 (-1)) := h2
    have e : i = 1 ∨ i = 2 ∨ i = 3 := by omega
    rcases e with rfl | rfl | rfl
    · rw [List.getD_cons_succ]; omega
    · rw [List.getD_cons_succ]; omega
    · rw [List.getD_cons_succ]; omega
theorem getD_app (t m : List Int) (k : Nat) (h : k < t.length) : (t ++ m).getD k (-1) = t.getD k (-1) := by simp [List.getD, List.getElem?_append_left h]
theorem lg_append (l m : List Int) (h : 1 ≤ lg l) : lg (l ++ m) = lg l := by
  cases l with
  | nil => simp [lg] at h
  | cons x t =>
    have hl := lg_len (x :: t)
    have g0 := getD_app t m 0
    have g1 := getD_app t m 1
    have g2 := getD_app t m 2
    simp only [lg, List.cons_append, List.length_cons] at *
    generalize t.getD 0 (-1) = y at *
    generalize t.getD 1 (-1) = z at *
    generalize t.getD 2 (-1) = w at *
    generalize (t ++ m).getD 0 (-1) = y' at *
    generalize (t ++ m).getD 1 (-1) = z' at *
    generalize (t ++ m).getD 2 (-1) = w' at *
    have hc := lgT_cases x y z w
    rcases hc with h0 | ⟨e, hx⟩ | ⟨e, hx⟩ | ⟨e, hx⟩ | ⟨e, hx⟩
    · omega
    · rw [e]; unfold lgT; rw [if_pos (by omega)]
    · rw [e] at hl; rw [g0 (by omega), e]; unfold lgT; rw [if_neg (by omega), if_pos (by omega)]
    · rw [e] at hl; rw [g0 (by omega), g1 (by omega), e]; exact lgT_w _ e
    · rw [e] at hl; rw [g0 (by omega), g1 (by omega), g2 (by omega)]
theorem lg_of_append (l m : List Int) (h : 1 ≤ lg (l ++ m)) (h2 : lg (l ++ m) ≤ l.length) : lg l = lg (l ++ m) := by
  cases l with
  | nil => simp only [List.length_nil] at h2; omega
  | cons x t =>
    have g0 := getD_app t m 0
    have g1 := getD_app t m 1
    have g2 := getD_app t m 2
    simp only [lg, List.cons_append, List.length_cons] at *
    generalize t.getD 0 (-1) = y at *
    generalize t.getD 1 (-1) = z at *
    generalize t.getD 2 (-1) = w at *
    generalize (t ++ m).getD 0 (-1) = y' at *
    generalize (t ++ m).getD 1 (-1) = z' at *
    generalize (t ++ m).getD 2 (-1) = w' at *
    have hc := lgT_cases x y' z' w'
    rcases hc with h0 | ⟨e, hx⟩ | ⟨e, hx⟩ | ⟨e, hx⟩ | ⟨e, hx⟩
    · omega
    · rw [e]; unfold lgT; rw [if_pos (by omega)]
    · rw [e] at h2; rw [g0 (by omega)] at hx; rw [e]; unfold lgT; rw [if_neg (by omega), if_pos (by omega)]
    · rw [e] at h2; rw [e]; rw [g0 (by omega), g1 (by omega)] at e; exact lgT_w _ e
    · rw [e] at h2; rw [g0 (by omega), g1 (by omega), g2 (by omega)]
def rho (n : Nat) : Int := if n ≤ 1 then 1 else 2 - n
def rn : List Int → Int
  | [] => 0
  | x :: t => rho (lg (x :: t)) + rn t
def fr : List Int → Int
  | [] => 0
  | x :: t => (if lg (x :: t) = 4 then 1 else 0) + fr t
def en : Int → List Int → Int
  | _, [] => 0
  | p, x :: t => (if x = 13 ∨ (x = 10 ∧ p ≠ 13) then 1 else 0) + en x t
def wd (l : List Int) : Nat := if lg l = 0 then 1 else lg l
def ru (l : List Int) : Int := if lg l = 0 then 65533 else num (l.take (lg l))
theorem wd_pos (l : List Int) : 1 ≤ wd l := by unfold wd; split <;> omega
theorem wd_le (x : Int) (t : List Int) : wd (x :: t) ≤ (x :: t).length := by
  have := lg_len (x :: t)
  unfold wd; split
  · simp
  · exact this
theorem rn_tails (t : List Int) (n : Nat) (h : ∀ i, i < n → 128 ≤ t.getD i (-1) ∧ t.getD i (-1) ≤ 191) : rn t = n + rn (t.drop n) ∧ fr t = fr (t.drop n) ∧ ∀ p, en p t = en (if n = 0 then p else 0) (t.drop n) := by
  induction n generalizing t with
  | zero => exact ⟨by simp, by simp, fun p => by simp⟩
  | succ n ih =>
    cases t with
    | nil => have := h 0 (by omega); simp [List.getD] at this
    | cons x t =>
      have hx := h 0 (by omega)
      simp [List.getD] at hx
      obtain ⟨h1, h2, h3⟩ := ih t (fun i hi => by have := h (i + 1) (by omega); rwa [List.getD_cons_succ] at this)
      have e0 := lg_tail t hx
      refine ⟨?_, ?_, fun p => ?_⟩
      · simp only [rn, e0, rho, List.drop_succ_cons]; rw [h1]; simp; omega
      · simp only [fr, e0, List.drop_succ_cons]; rw [h2]; simp
      · simp only [en, List.drop_succ_cons, if_neg (Nat.succ_ne_zero n)]
        rw [if_neg (by omega), h3 x]
        split
        · rename_i h0; subst h0
          rw [List.drop_zero]
          cases t with
          | nil => rfl
          | cons y t =>
            simp only [en]
            have : x ≠ 13 := by omega
            simp [this]
        · simp
theorem rn_step (x : Int) (t : List Int) : rn (x :: t) = 1 + rn ((x :: t).drop (wd (x :: t))) := by
  have hw : wd (x :: t) = (wd (x :: t) - 1) + 1 := by have := wd_pos (x :: t); omega
  have ht := rn_tails t (wd (x :: t) - 1) (fun i hi => by
    have hl : wd (x :: t) = lg (x :: t) := by unfold wd at hi ⊢; split <;> simp_all
    have := lg_tails (x :: t) (i + 1) (by omega) (by omega)
    rwa [List.getD_cons_succ] at this)
  rw [hw, List.drop_succ_cons]
  simp only [rn]
  rw [ht.1]
  generalize rn (List.drop (wd (x :: t) - 1) t) = R
  have := lg_le (x :: t)
  unfold wd rho
  split <;> split <;> omega
theorem fr_step (x : Int) (t : List Int) : fr (x :: t) = (if lg (x :: t) = 4 then 1 else 0) + fr ((x :: t).drop (wd (x :: t))) := by
  have hw : wd (x :: t) = (wd (x :: t) - 1) + 1 := by have := wd_pos (x :: t); omega
  have ht := rn_tails t (wd (x :: t) - 1) (fun i hi => by
    have hl : wd (x :: t) = lg (x :: t) := by unfold wd at hi ⊢; split <;> simp_all
    have := lg_tails (x :: t) (i + 1) (by omega) (by omega)
    rwa [List.getD_cons_succ] at this)
  rw [hw, List.drop_succ_cons]
  simp only [fr]
  rw [ht.2.1]
theorem ru_facts (x : Int) (t : List Int) (hx : 0 ≤ x) : (ru (x :: t) = 13 ↔ x = 13) ∧ (ru (x :: t) = 10 ↔ x = 10) ∧ (ru (x :: t) > 65535 ↔ lg (x :: t) = 4) ∧ 0 ≤ ru (x :: t) ∧ ru (x :: t) ≤ 1114111 := by
  have hl := lg_len (x :: t)
  have hg : lg (x :: t) = lgT x (t.getD 0 (-1)) (t.getD 1 (-1)) (t.getD 2 (-1)) := rfl
  unfold ru
  rcases lgT_cases x (t.getD 0 (-1)) (t.getD 1 (-1)) (t.getD 2 (-1)) with e | ⟨e, h⟩ | ⟨e, h⟩ | ⟨e, h⟩ | ⟨e, h⟩
  · rw [hg, e, if_pos rfl]
    have : ¬ (0 ≤ x ∧ x ≤ 127) := fun h => by unfold lgT at e; rw [if_pos h] at e; omega
    omega
  · rw [hg, e, if_neg (by omega)]
    simp only [List.take_succ_cons, List.take_zero, num]
    exact ⟨trivial, trivial, ⟨fun h' => by omega, fun h' => by omega⟩, by omega, by omega⟩
  · rw [hg, e] at hl
    rw [hg, e, if_neg (by omega)]
    match t, hl, h, e with
    | y :: t', _, h, e =>
      simp only [List.take_succ_cons, List.take_zero, num, List.getD_cons_zero] at *
      omega
  · rw [hg, e] at hl
    rw [hg, e, if_neg (by omega)]
    match t, hl, h, e with
    | y :: z :: t', _, h, e =>
      simp only [List.take_succ_cons, List.take_zero, num, List.getD_cons_zero, List.getD_cons_succ] at *
      unfold lgT at e
      rw [if_neg (by omega), if_neg (by omega)] at e
      split at e
      · omega
      · split at e <;> omega
    | [_], hl, _, _ => simp at hl
    | [], hl, _, _ => simp at hl
  · rw [hg, e] at hl
    rw [hg, e, if_neg (by omega)]
    match t, hl, h, e with
    | y :: z :: w :: t', _, h, e =>
      simp only [List.take_succ_cons, List.take_zero, num, List.getD_cons_zero, List.getD_cons_succ] at *
      have hx : x % 8 = x - 240 := by omega
      have hy : y % 64 = y - 128 := by omega
      have hz : z % 64 = z - 128 := by omega
      have hw : w % 64 = w - 128 := by omega
      rw [hx, hy, hz, hw]
      unfold lgT at e
      rw [if_neg (by omega), if_neg (by omega), if_neg (by omega)] at e
      split at e
      · exact ⟨⟨fun h' => by omega, fun h' => by omega⟩, ⟨fun h' => by omega, fun h' => by omega⟩, ⟨fun h' => trivial, fun h' => by omega⟩, by omega, by omega⟩
      · omega
    | [_, _], hl, _, _ => simp at hl
    | [_], hl, _, _ => simp at hl
    | [], hl, _, _ => simp at hl
theorem en_step (p : Int) (x : Int) (t : List Int) (hx : 0 ≤ x) : en p (x :: t) = (if ru (x :: t) = 13 ∨ (ru (x :: t) = 10 ∧ p ≠ 13) then 1 else 0) + en (ru (x :: t)) ((x :: t).drop (wd (x :: t))) := by
  obtain ⟨r13, r10, _, _⟩ := ru_facts x t hx
  have hw : wd (x :: t) = (wd (x :: t) - 1) + 1 := by have := wd_pos (x :: t); omega
  have ht := (rn_tails t (wd (x :: t) - 1) (fun i hi => by
    have hl : wd (x :: t) = lg (x :: t) := by unfold wd at hi ⊢; split <;> simp_all
    have := lg_tails (x :: t) (i + 1) (by omega) (by omega)
    rwa [List.getD_cons_succ] at this)).2.2 x
  rw [hw, List.drop_succ_cons]
  simp only [en]
  rw [ht]
  have hif : (if x = 13 ∨ x = 10 ∧ p ≠ 13 then (1 : Int) else 0) = if ru (x :: t) = 13 ∨ ru (x :: t) = 10 ∧ p ≠ 13 then 1 else 0 := by
    simp only [r13, r10]
  rw [hif]
  congr 1
  -- what follows asks of the byte ahead only whether it is 13
  have key : ∀ (u v : Int) (l : List Int), (u = 13 ↔ v = 13) → en u l = en v l := by
    intro u v l h
    cases l with
    | nil => rfl
    | cons y l =>
      simp only [en]
      simp only [ne_eq, h]
  apply key
  split
  · exact r13.symm
  · rename_i hne
    -- the step has two bytes or more: neither is 13
    have h0 : lg (x :: t) ≠ 0 := fun h0 => hne (by unfold wd; rw [if_pos h0])
    have hl : wd (x :: t) = lg (x :: t) := by unfold wd; rw [if_neg h0]
    have := lgT_cases x (t.getD 0 (-1)) (t.getD 1 (-1)) (t.getD 2 (-1))
    have hg : lg (x :: t) = lgT x (t.getD 0 (-1)) (t.getD 1 (-1)) (t.getD 2 (-1)) := rfl
    rw [r13]
    omega
end Go.Proofs.YtaojbcplmdjfnaaDoor.Math

namespace Go.Proofs.YtaojbcplmdjfnaaDoor.Math
open Go.RowKit
set_option linter.unusedVariables false
set_option linter.unusedSimpArgs false
def dcT (X Y Z W : Nat) (n : Nat) : Nat × Nat :=
  if n = 0 then (65533, 1) else if n = 1 then (X, 1) else if n = 2 then (X % 32 * 64 + Y % 64, 2) else if n = 3 then (X % 16 * 4096 + Y % 64 * 64 + Z % 64, 3) else (X % 8 * 262144 + Y % 64 * 4096 + Z % 64 * 64 + W % 64, 4)
set_option maxHeartbeats 4000000 in
theorem dec_core (n X Y Z W : Nat) (y z w : Int) (hX : X < 256) (hY : Y < 256) (hZ : Z < 256) (hW : W < 256) (h1 : 1 < n → y = Y) (h1' : n ≤ 1 → y = -1) (h2 : 2 < n → z = Z) (h2' : n ≤ 2 → z = -1) (h3 : 3 < n → w = W) (h3' : n ≤ 3 → w = -1) :
    Lib.decodeN n X Y Z W = dcT X Y Z W (lgT X y z w) := by
  unfold lgT
  split
  · show _ = (X, 1)
    unfold Lib.decodeN
    rw [if_pos (by omega)]
  split
  · show _ = (X % 32 * 64 + Y % 64, 2)
    unfold Lib.decodeN
    rw [if_neg (by omega), if_pos (by omega), if_pos (by omega)]
  split
  · show _ = (X % 16 * 4096 + Y % 64 * 64 + Z % 64, 3)
    have g1 : 1 < n := by omega
    have g2 : 2 < n := by omega
    have e1 := h1 g1
    have e2 := h2 g2
    unfold Lib.decodeN
    rw [if_neg (by omega), if_neg (by omega), if_pos (by omega), if_pos (by omega)]
  split
  · show _ = (X % 8 * 262144 + Y % 64 * 4096 + Z % 64 * 64 + W % 64, 4)
    have g1 : 1 < n := by omega
    have g2 : 2 < n := by omega
    have g3 : 3 < n := by omega
    have e1 := h1 g1
    have e2 := h2 g2
    have e3 := h3 g3
    have m1 : Y % 64 = Y - 128 := by omega
    have m2 : Z % 64 = Z - 128 := by omega
    have m3 : W % 64 = W - 128 := by omega
    have m0 : X % 8 = X - 240 := by omega
    unfold Lib.decodeN
    rw [if_neg (by omega), if_neg (by omega), if_neg (by omega), if_pos (by omega), m0, m1, m2, m3, if_pos (by omega)]
  · show _ = (65533, 1)
    rename_i c1 c2 c3 c4
    unfold Lib.decodeN
    rw [if_neg (by omega)]
    split
    · rename_i d
      have g1 : 1 < n := d.2.1
      have e1 := h1 g1
      rw [if_neg (by omega)]
    split
    · rename_i _ d
      have g1 : 1 < n := d.2.1.1
      have g2 : 2 < n := d.2.2.1
      have e1 := h1 g1
      have e2 := h2 g2
      rw [if_neg (by omega)]
    split
    · rename_i _ _ d
      have g1 : 1 < n := d.2.1.1
      have g2 : 2 < n := d.2.2.1.1
      have g3 : 3 < n := d.2.2.2.1
      have e1 := h1 g1
      have e2 := h2 g2
      have e3 := h3 g3
      have m1 : Y % 64 = Y - 128 := by omega
      have m2 : Z % 64 = Z - 128 := by omega
      have m3 : W % 64 = W - 128 := by omega
      have m0 : X % 8 = X - 240 := by omega
      rw [m0, m1, m2, m3, if_neg (by omega)]
    · rfl
theorem Byt.drop {l : List Int} (h : Byt l) (n : Nat) : Byt (l.drop n) := fun x hx => h x (List.mem_of_mem_drop hx)
theorem Byt.take {l : List Int} (h : Byt l) (n : Nat) : Byt (l.take n) := fun x hx => h x (List.mem_of_mem_take hx)
theorem Byt.append {l m : List Int} (h : Byt l) (h' : Byt m) : Byt (l ++ m) := fun x hx => (List.mem_append.1 hx).elim (h x) (h' x)
theorem Byt.getD {l : List Int} (h : Byt l) (k : Nat) (hk : k < l.length) (d : Int) : 0 ≤ l.getD k d ∧ l.getD k d ≤ 255 := by
  have e : l.getD k d = l[k] := by simp [List.getD, List.getElem?_eq_getElem hk]
  rw [e]; exact h _ (List.getElem_mem hk)
theorem str_getD (l : List Int) (hb : Byt l) (k : Nat) : (((strOfNums l).data.toList.getD k 0).toNat : Int) = l.getD k 0 := by
  rw [strOfNums_data]
  by_cases hk : k < l.length
  · have := hb.getD k hk 0
    have e : l.getD k 0 = l[k] := by simp [List.getD, List.getElem?_eq_getElem hk]
    simp only [List.getD_eq_getElem?_getD, List.getElem?_map, List.getElem?_eq_getElem hk, Option.map_some, Option.getD_some] at *
    rw [UInt8.toNat_ofNat']
    omega
  · simp [List.getD, List.getElem?_eq_none (Nat.le_of_not_lt hk)]
theorem getD_swap {l : List Int} {k : Nat} (hk : k < l.length) (c d : Int) : l.getD k c = l.getD k d := by simp [List.getD, List.getElem?_eq_getElem hk]
theorem getD_drop' (l : List Int) (p k : Nat) (d : Int) : (l.drop p).getD k d = l.getD (p + k) d := by simp [List.getD, List.getElem?_drop]
theorem decode_eq (l : List Int) (hb : Byt l) (p : Nat) (hp : p < l.length) : ((Utf8.decode (strOfNums l) p).1 : Int) = ru (l.drop p) ∧ (Utf8.decode (strOfNums l) p).2 = wd (l.drop p) := by
  rw [Lib.decode_N]
  have hlen : (strOfNums l).data.toList.length = l.length := by rw [strOfNums_data, List.length_map]
  rw [hlen]
  obtain ⟨x, t, hxt⟩ : ∃ x t, l.drop p = x :: t := by
    cases h : l.drop p with
    | nil => have := congrArg List.length h; simp at this; omega
    | cons x t => exact ⟨x, t, rfl⟩
  have hbt : Byt (x :: t) := hxt ▸ hb.drop p
  have htl : t.length + 1 = l.length - p := by have := congrArg List.length hxt; simp at this; omega
  have gk : ∀ k, l.getD (p + k) 0 = (x :: t).getD k 0 := fun k => by rw [← hxt, getD_drop']
  have s0 := str_getD l hb p
  have s1 := str_getD l hb (p + 1)
  have s2 := str_getD l hb (p + 2)
  have s3 := str_getD l hb (p + 3)
  have g0 := gk 0
  rw [Nat.add_zero] at g0
  rw [g0] at s0
  rw [gk 1] at s1
  rw [gk 2] at s2
  rw [gk 3] at s3
  simp only [List.getD_cons_zero, List.getD_cons_succ] at s0 s1 s2 s3
  have b0 := UInt8.toNat_lt ((strOfNums l).data.toList.getD p 0)
  have b1 := UInt8.toNat_lt ((strOfNums l).data.toList.getD (p + 1) 0)
  have b2 := UInt8.toNat_lt ((strOfNums l).data.toList.getD (p + 2) 0)
  have b3 := UInt8.toNat_lt ((strOfNums l).data.toList.getD (p + 3) 0)
  generalize ((strOfNums l).data.toList.getD p 0).toNat = X at *
  generalize ((strOfNums l).data.toList.getD (p + 1) 0).toNat = Y at *
  generalize ((strOfNums l).data.toList.getD (p + 2) 0).toNat = Z at *
  generalize ((strOfNums l).data.toList.getD (p + 3) 0).toNat = W at *
  rw [dec_core (l.length - p) X Y Z W (t.getD 0 (-1)) (t.getD 1 (-1)) (t.getD 2 (-1)) b0 b1 b2 b3
    (fun h => by rw [s1]; exact getD_swap (by omega) _ _) (fun h => getD_m1 t 0 (by omega))
    (fun h => by rw [s2]; exact getD_swap (by omega) _ _) (fun h => getD_m1 t 1 (by omega))
    (fun h => by rw [s3]; exact getD_swap (by omega) _ _) (fun h => getD_m1 t 2 (by omega)), hxt]
  have hg : lg (x :: t) = lgT X (t.getD 0 (-1)) (t.getD 1 (-1)) (t.getD 2 (-1)) := by rw [s0]; rfl
  have hll := lg_len (x :: t)
  rw [← hg]
  have h4 := lg_le (x :: t)
  unfold ru wd dcT
  have hc : lg (x :: t) = 0 ∨ lg (x :: t) = 1 ∨ lg (x :: t) = 2 ∨ lg (x :: t) = 3 ∨ lg (x :: t) = 4 := by omega
  rcases hc with e | e | e | e | e
  · simp [e]
  · simp only [e, List.take_succ_cons, List.take_zero, num]; simp [s0]
  · match t, hll, s1 with
    | y :: t', _, s1 =>
      simp only [List.getD_cons_zero] at s1
      simp only [e, List.take_succ_cons, List.take_zero, num]; simp; omega
    | [], hll, _ => rw [e] at hll; simp at hll
  · match t, hll, s1, s2 with
    | y :: z :: t', _, s1, s2 =>
      simp only [List.getD_cons_zero, List.getD_cons_succ] at s1 s2
      simp only [e, List.take_succ_cons, List.take_zero, num]; simp; omega
    | [_], hll, _, _ => rw [e] at hll; simp at hll
    | [], hll, _, _ => rw [e] at hll; simp at hll
  · match t, hll, s1, s2, s3 with
    | y :: z :: w :: t', _, s1, s2, s3 =>
      simp only [List.getD_cons_zero, List.getD_cons_succ] at s1 s2 s3
      simp only [e, List.take_succ_cons, List.take_zero, num]; simp; omega
    | [_, _], hll, _, _, _ => rw [e] at hll; simp at hll
    | [_], hll, _, _, _ => rw [e] at hll; simp at hll
    | [], hll, _, _, _ => rw [e] at hll; simp at hll
end Go.Proofs.YtaojbcplmdjfnaaDoor.Math

namespace Go.Proofs.YtaojbcplmdjfnaaDoor.Math
set_option linter.unusedVariables false
set_option linter.unusedSimpArgs false
theorem rn_bounds' (l : List Int) : 0 ≤ fr l ∧ 0 ≤ rn l ∧ rn l ≤ l.length ∧ fr l ≤ rn l ∧ rn l + 3 * fr l ≤ l.length := by
  generalize hn : l.length = n
  induction n using Nat.strongRecOn generalizing l with
  | ind n ih =>
    cases l with
    | nil => simp [rn, fr]
    | cons x t =>
      have hw := wd_pos (x :: t)
      have hwl := wd_le x t
      have hd : ((x :: t).drop (wd (x :: t))).length = n - wd (x :: t) := by rw [List.length_drop, hn]
      have h := ih (n - wd (x :: t)) (by simp at hn; omega) _ hd
      rw [rn_step, fr_step]
      have hw4 : lg (x :: t) = 4 → wd (x :: t) = 4 := fun h => by unfold wd; rw [h]; rfl
      split <;> omega
theorem en_bounds' (l : List Int) : ∀ p, 0 ≤ en p l ∧ en p l ≤ l.length := by
  induction l with
  | nil => intro p; simp [en]
  | cons x t ih =>
    intro p
    have := ih x
    simp only [en, List.length_cons]
    split <;> omega
def seamR : List Int → List Int → Int × Int
  | [], _ => (0, 0)
  | x :: t, b => if t.length + 1 < lg (x :: t ++ b) then (((lg (x :: t ++ b) : Nat) : Int) - 1, ((lg (x :: t ++ b) : Nat) : Int) - (if lg (x :: t ++ b) = 4 then 2 else 1)) else seamR t b
theorem seamR_tails (t b : List Int) (h : ∀ i, i < t.length → 128 ≤ t.getD i (-1) ∧ t.getD i (-1) ≤ 191) : seamR t b = (0, 0) := by
  induction t with
  | nil => rfl
  | cons x t ih =>
    have h0 := h 0 (by simp)
    simp at h0
    rw [seamR, List.cons_append, lg_tail _ h0, if_neg (by omega)]
    exact ih (fun i hi => by have := h (i + 1) (by simp; omega); rwa [List.getD_cons_succ] at this)
theorem rf_append (a b : List Int) : rn (a ++ b) = rn a + rn b - (seamR a b).1 ∧ rn (a ++ b) + fr (a ++ b) = (rn a + fr a) + (rn b + fr b) - (seamR a b).2 := by
  induction a with
  | nil => simp [rn, fr, seamR]
  | cons x t ih =>
    obtain ⟨h1, h2⟩ := ih
    have hll := lg_len (x :: t)
    have e1 : rn (x :: t ++ b) = rho (lg (x :: t ++ b)) + rn (t ++ b) := rfl
    have e2 : fr (x :: t ++ b) = (if lg (x :: t ++ b) = 4 then 1 else 0) + fr (t ++ b) := rfl
    have e3 : rn (x :: t) = rho (lg (x :: t)) + rn t := rfl
    have e4 : fr (x :: t) = (if lg (x :: t) = 4 then 1 else 0) + fr t := rfl
    rw [seamR, e1, e2, e3, e4]
    generalize hL' : lg (x :: t ++ b) = L
    have h4 := lg_le (x :: t ++ b)
    rw [hL'] at h4
    by_cases hs : t.length + 1 < L
    · rw [if_pos hs]
      have hz : seamR t b = (0, 0) := seamR_tails t b (fun i hi => by
        have := lg_tails (x :: t ++ b) (i + 1) (by omega) (by omega)
        rwa [List.cons_append, List.getD_cons_succ, getD_app t b i hi] at this)
      have h0 : lg (x :: t) = 0 := by
        rcases Nat.eq_zero_or_pos (lg (x :: t)) with h | h
        · exact h
        · have := lg_append (x :: t) b h
          simp at hll; omega
      rw [hz] at h1 h2
      simp only at h1 h2 ⊢
      rw [h0]
      unfold rho
      rw [if_neg (by omega), if_pos (by omega)]
      refine ⟨by omega, ?_⟩
      split <;> simp <;> omega
    · rw [if_neg hs]
      have he : L = lg (x :: t) := by
        rcases Nat.eq_zero_or_pos L with h | h
        · rcases Nat.eq_zero_or_pos (lg (x :: t)) with h' | h'
          · rw [h, h']
          · have := lg_append (x :: t) b h'; omega
        · exact ((lg_of_append (x :: t) b (by omega) (by simp; simp at hL'; omega)).trans hL').symm
      subst he
      refine ⟨by omega, by omega⟩
theorem seamR_last (a b : List Int) : seamR a b = seamR (a.drop (a.length - 3)) b := by
  induction a with
  | nil => rfl
  | cons x t ih =>
    by_cases h : t.length + 1 ≤ 3
    · rw [List.length_cons, show t.length + 1 - 3 = 0 by omega, List.drop_zero]
    · have h4 := lg_le (x :: t ++ b)
      rw [seamR, if_neg (by omega), List.length_cons, show t.length + 1 - 3 = (t.length - 3) + 1 by omega, List.drop_succ_cons]
      exact ih
theorem getD_take' (b : List Int) (n k : Nat) (h : k < n) : (b.take n).getD k (-1) = b.getD k (-1) := by
  simp [List.getD, List.getElem?_take, h]
theorem getD_app2 (s b : List Int) (k : Nat) (h : s.length ≤ k) : (s ++ b).getD k (-1) = b.getD (k - s.length) (-1) := by
  simp [List.getD, List.getElem?_append_right h]
theorem lg_head (x : Int) (t b : List Int) (n : Nat) (hn : 3 ≤ n) : lg (x :: t ++ b.take n) = lg (x :: t ++ b) := by
  have hk : ∀ k, k ≤ 2 → (t ++ b.take n).getD k (-1) = (t ++ b).getD k (-1) := by
    intro k hk
    by_cases h : k < t.length
    · rw [getD_app _ _ _ h, getD_app _ _ _ h]
    · rw [getD_app2 _ _ _ (by omega), getD_app2 _ _ _ (by omega), getD_take' _ _ _ (by omega)]
  simp only [lg, List.cons_append]
  rw [hk 0 (by omega), hk 1 (by omega), hk 2 (by omega)]
theorem seamR_take (a b : List Int) : seamR a b = seamR a (b.take 3) := by
  induction a with
  | nil => rfl
  | cons x t ih => rw [seamR, seamR, lg_head x t b 3 (by omega), ih]
def seamE (a b : List Int) : Int := if a.getD (a.length - 1) (-1) = 13 ∧ b.getD 0 (-1) = 10 then 1 else 0
theorem en_key (u v : Int) (l : List Int) (h : u = 13 ↔ v = 13) : en u l = en v l := by
  cases l with
  | nil => rfl
  | cons y l => simp only [en, ne_eq, h]
theorem en_append (a b : List Int) (p : Int) : en p (a ++ b) = en p a + en (if a = [] then p else a.getD (a.length - 1) (-1)) b := by
  induction a generalizing p with
  | nil => simp [en]
  | cons x t ih =>
    simp only [List.cons_append, en]
    rw [ih x]
    have e1 : (if x :: t = [] then p else (x :: t).getD ((x :: t).length - 1) (-1)) = (if t = [] then x else t.getD (t.length - 1) (-1)) := by
      rw [if_neg (List.cons_ne_nil _ _)]
      cases t with
      | nil => simp
      | cons y t => rw [if_neg (List.cons_ne_nil _ _)]; simp
    rw [e1]
    omega
theorem en_seam (a b : List Int) : en 0 (a ++ b) = en 0 a + en 0 b - seamE a b := by
  rw [en_append]
  unfold seamE
  by_cases ha : a = []
  · subst ha; simp
  · rw [if_neg ha]
    generalize a.getD (a.length - 1) (-1) = q
    by_cases hq : q = 13
    · subst hq
      cases b with
      | nil => simp [en]
      | cons y b =>
        simp only [en, List.getD_cons_zero, true_and]
        by_cases h10 : y = 10
        · subst h10; simp; omega
        · by_cases h13 : y = 13
          · subst h13; simp
          · simp [h10, h13]
    · rw [en_key q 0 b (by omega), if_neg (fun h => hq h.1)]
      omega
theorem seamE_last (a b : List Int) : seamE a b = seamE (a.drop (a.length - 3)) (b.take 3) := by
  unfold seamE
  rw [getD_take' _ _ _ (by omega), getD_drop', List.length_drop]
  congr 3
  by_cases h : 1 ≤ a.length
  · congr 1; omega
  · have : a.length = 0 := by omega
    rw [List.length_eq_zero_iff.1 this]; rfl
theorem seamR_range (a b : List Int) : 0 ≤ (seamR a b).1 ∧ (seamR a b).1 ≤ 3 ∧ 0 ≤ (seamR a b).2 ∧ (seamR a b).2 ≤ 2 := by
  induction a with
  | nil => simp [seamR]
  | cons x t ih =>
    have h4 := lg_le (x :: t ++ b)
    rw [seamR]
    generalize lg (x :: t ++ b) = L at *
    split
    · refine ⟨?_, ?_, ?_, ?_⟩ <;> dsimp only <;> (try split) <;> omega
    · exact ih
theorem seamE_range (a b : List Int) : 0 ≤ seamE a b ∧ seamE a b ≤ 1 := by unfold seamE; split <;> omega
theorem len_le (l : List Int) (hb : Byt l) : (l.length : Int) ≤ 3 * rn l + fr l ∧ ∀ p, en p l ≤ rn l := by
  generalize hn : l.length = n
  induction n using Nat.strongRecOn generalizing l with
  | ind n ih =>
    cases l with
    | nil => simp [rn, fr, en] at *; omega
    | cons x t =>
      have hw := wd_pos (x :: t)
      have hwl := wd_le x t
      have h4 := lg_le (x :: t)
      have hx := (hb x (by simp)).1
      have hd : ((x :: t).drop (wd (x :: t))).length = n - wd (x :: t) := by rw [List.length_drop, hn]
      have h := ih (n - wd (x :: t)) (by simp at hn; omega) _ (hb.drop _) hd
      rw [rn_step, fr_step]
      refine ⟨?_, fun p => ?_⟩
      · have hh := h.1
        have hw4 : (wd (x :: t) : Int) ≤ 3 + (if lg (x :: t) = 4 then 1 else 0) := by unfold wd; split <;> split <;> omega
        omega
      · rw [en_step p x t hx]
        have hh := h.2 (ru (x :: t))
        split <;> omega
def vldB (n r u e : Int) (H T : List Int) : Bool :=
  if n < 0 ∨ n > 268435456 ∨ (H.length : Int) ≠ min 3 n ∨ (T.length : Int) ≠ min 3 n then false
  else if n ≤ 6 then decide (H.drop (n.toNat - T.length) = T.take (H.length + T.length - n.toNat)) && decide (r = rn (H ++ T.drop (H.length + T.length - n.toNat)) ∧ u = rn (H ++ T.drop (H.length + T.length - n.toNat)) + fr (H ++ T.drop (H.length + T.length - n.toNat)) ∧ e = en 0 (H ++ T.drop (H.length + T.length - n.toNat)))
  else decide (0 ≤ r ∧ r ≤ n ∧ r ≤ u ∧ u ≤ 2 * r ∧ r - (u - r) ≤ n - 4 * (u - r) ∧ n - 4 * (u - r) ≤ 3 * (r - (u - r)) ∧ 0 ≤ e ∧ e ≤ r)
theorem vld_of (l : List Int) (hb : Byt l) (hl : l.length ≤ 268435456) : vldB l.length (rn l) (rn l + fr l) (en 0 l) (l.take 3) (l.drop (l.length - 3)) = true := by
  unfold vldB
  rw [if_neg (by simp; omega)]
  split
  · rename_i h6
    have e1 : (l.length : Int).toNat = l.length := by simp
    rw [e1]
    have hT : (l.drop (l.length - 3)).length = min 3 l.length := by rw [List.length_drop]; omega
    have hH : (l.take 3).length = min 3 l.length := by rw [List.length_take]
    rw [hT, hH]
    by_cases h3 : l.length ≤ 3
    · have q1 : l.take 3 = l := List.take_of_length_le h3
      have q2 : l.length - 3 = 0 := by omega
      have q3 : l.length - min 3 l.length = 0 := by omega
      have q4 : min 3 l.length + min 3 l.length - l.length = l.length := by omega
      rw [q2, q3, q4, q1, List.drop_zero, List.drop_length, List.append_nil, List.take_length]
      simp
    · have q3 : l.length - min 3 l.length = l.length - 3 := by omega
      have q4 : min 3 l.length + min 3 l.length - l.length = 3 - (l.length - 3) := by omega
      have q5 : (l.take 3).drop (l.length - 3) = (l.drop (l.length - 3)).take (3 - (l.length - 3)) := by rw [List.drop_take]
      have q6 : l.take 3 ++ (l.drop (l.length - 3)).drop (3 - (l.length - 3)) = l := by
        rw [List.drop_drop, show l.length - 3 + (3 - (l.length - 3)) = 3 by omega, List.take_append_drop]
      rw [q3, q4, q5, q6]
      simp
  · have h1 := rn_bounds' l
    have h2 := len_le l hb
    have h3 := h2.2 0
    have h4 := en_bounds' l 0
    rw [decide_eq_true_eq]
    omega
end Go.Proofs.YtaojbcplmdjfnaaDoor.Math

namespace Go.Proofs.YtaojbcplmdjfnaaDoor.Pr
open Go.RowKit Go.Proofs.YtaojbcplmdjfnaaDoorW.PrintWords Go.Proofs.YtaojbcplmdjfnaaDoorW.PrintLast Go.Proofs.YtaojbcplmdjfnaaDoorW.PrintMore
attribute [local go_sem] max2_int min2_int max_two min_two max_three min_three max_four min_four   -- for this text's walks alone
set_option linter.unusedVariables false
set_option linter.unusedSimpArgs false
def galleyref02_at.f (l0 : List Int) (a1 : Int) : Option (Int) := if a1 < 0 then (some (-1)) else (if a1 ≥ (l0.length : Int) then (some (-1)) else (if 0 ≤ a1 then (if a1 < (l0.length : Int) then (some (wrap64 (rd l0 a1))) else (none)) else (none)))
def galleyref02_in.f (a0 : Int) (a1 : Int) (a2 : Int) : Option (Bool) := if a0 ≥ a1 then (some (decide (a0 ≤ a2))) else (some false)
end Go.Proofs.YtaojbcplmdjfnaaDoor.Pr

namespace Go.Proofs.YtaojbcplmdjfnaaDoor.Pr
open Go.RowKit Go.Proofs.YtaojbcplmdjfnaaDoorW.PrintWords Go.Proofs.YtaojbcplmdjfnaaDoorW.PrintLast Go.Proofs.YtaojbcplmdjfnaaDoorW.PrintMore
attribute [local go_sem] max2_int min2_int max_two min_two max_three min_three max_four min_four   -- for this text's walks alone
set_option linter.unusedVariables false
set_option linter.unusedSimpArgs false
mutual
def galleyref02_Long.j0 : Nat → Int → Int → Int → Int → Bool → Option (Int)
 | 0, _, _, _, _, _ => none
 | k + 1, x5, x6, x7, x8, x31 => if x31 = true then (some 2) else ((galleyref02_in.f x7 128 191).bind fun t218 => (if t218 = true then (if x5 = 224 then ((galleyref02_in.f x6 160 191).bind fun t219 => (if t219 = true then (some 3) else ((galleyref02_in.f x5 225 236).bind fun t220 => (if t220 = true then ((galleyref02_in.f x6 128 191).bind fun t221 => (if t221 = true then (some 3) else (if x5 = 237 then ((galleyref02_in.f x6 128 159).bind fun t222 => (if t222 = true then (some 3) else ((galleyref02_in.f x5 238 239).bind fun t223 => (if t223 = true then ((galleyref02_in.f x6 128 191).bind fun t224 => (if t224 = true then (some 3) else (galleyref02_Long.j1 k x5 x6 x7 x8))) else (galleyref02_Long.j1 k x5 x6 x7 x8))))) else ((galleyref02_in.f x5 238 239).bind fun t225 => (if t225 = true then ((galleyref02_in.f x6 128 191).bind fun t226 => (if t226 = true then (some 3) else (galleyref02_Long.j1 k x5 x6 x7 x8))) else (galleyref02_Long.j1 k x5 x6 x7 x8)))))) else (if x5 = 237 then ((galleyref02_in.f x6 128 159).bind fun t227 => (if t227 = true then (some 3) else ((galleyref02_in.f x5 238 239).bind fun t228 => (if t228 = true then ((galleyref02_in.f x6 128 191).bind fun t229 => (if t229 = true then (some 3) else (galleyref02_Long.j1 k x5 x6 x7 x8))) else (galleyref02_Long.j1 k x5 x6 x7 x8))))) else ((galleyref02_in.f x5 238 239).bind fun t230 => (if t230 = true then ((galleyref02_in.f x6 128 191).bind fun t231 => (if t231 = true then (some 3) else (galleyref02_Long.j1 k x5 x6 x7 x8))) else (galleyref02_Long.j1 k x5 x6 x7 x8)))))))) else ((galleyref02_in.f x5 225 236).bind fun t232 => (if t232 = true then ((galleyref02_in.f x6 128 191).bind fun t233 => (if t233 = true then (some 3) else (if x5 = 237 then ((galleyref02_in.f x6 128 159).bind fun t234 => (if t234 = true then (some 3) else ((galleyref02_in.f x5 238 239).bind fun t235 => (if t235 = true then ((galleyref02_in.f x6 128 191).bind fun t236 => (if t236 = true then (some 3) else (galleyref02_Long.j1 k x5 x6 x7 x8))) else (galleyref02_Long.j1 k x5 x6 x7 x8))))) else ((galleyref02_in.f x5 238 239).bind fun t237 => (if t237 = true then ((galleyref02_in.f x6 128 191).bind fun t238 => (if t238 = true then (some 3) else (galleyref02_Long.j1 k x5 x6 x7 x8))) else (galleyref02_Long.j1 k x5 x6 x7 x8)))))) else (if x5 = 237 then ((galleyref02_in.f x6 128 159).bind fun t239 => (if t239 = true then (some 3) else ((galleyref02_in.f x5 238 239).bind fun t240 => (if t240 = true then ((galleyref02_in.f x6 128 191).bind fun t241 => (if t241 = true then (some 3) else (galleyref02_Long.j1 k x5 x6 x7 x8))) else (galleyref02_Long.j1 k x5 x6 x7 x8))))) else ((galleyref02_in.f x5 238 239).bind fun t242 => (if t242 = true then ((galleyref02_in.f x6 128 191).bind fun t243 => (if t243 = true then (some 3) else (galleyref02_Long.j1 k x5 x6 x7 x8))) else (galleyref02_Long.j1 k x5 x6 x7 x8))))))) else (galleyref02_Long.j1 k x5 x6 x7 x8)))
def galleyref02_Long.j1 : Nat → Int → Int → Int → Int → Option (Int)
 | 0, _, _, _, _ => none
 | k + 1, x5, x6, x7, x8 => (galleyref02_in.f x7 128 191).bind fun t244 => (if t244 = true then ((galleyref02_in.f x8 128 191).bind fun t245 => (galleyref02_Long.j2 k x5 x6 t245)) else (galleyref02_Long.j2 k x5 x6 false))
def galleyref02_Long.j2 : Nat → Int → Int → Bool → Option (Int)
 | 0, _, _, _ => none
 | k + 1, x5, x6, x69 => if x69 = true then (if x5 = 240 then ((galleyref02_in.f x6 144 191).bind fun t246 => (if t246 = true then (some 4) else ((galleyref02_in.f x5 241 243).bind fun t247 => (if t247 = true then ((galleyref02_in.f x6 128 191).bind fun t248 => (if t248 = true then (some 4) else (if x5 = 244 then ((galleyref02_in.f x6 128 143).bind fun t249 => (if t249 = true then (some 4) else (some 0))) else (some 0)))) else (if x5 = 244 then ((galleyref02_in.f x6 128 143).bind fun t250 => (if t250 = true then (some 4) else (some 0))) else (some 0)))))) else ((galleyref02_in.f x5 241 243).bind fun t251 => (if t251 = true then ((galleyref02_in.f x6 128 191).bind fun t252 => (if t252 = true then (some 4) else (if x5 = 244 then ((galleyref02_in.f x6 128 143).bind fun t253 => (if t253 = true then (some 4) else (some 0))) else (some 0)))) else (if x5 = 244 then ((galleyref02_in.f x6 128 143).bind fun t254 => (if t254 = true then (some 4) else (some 0))) else (some 0))))) else (some 0)
end
def galleyref02_Long.f (k : Nat) (l0 : List Int) (a1 : Int) : Option (Int) := (galleyref02_at.f l0 a1).bind fun t211 => ((galleyref02_at.f l0 (wrap64 (a1 + 1))).bind fun t212 => ((galleyref02_at.f l0 (wrap64 (a1 + 2))).bind fun t213 => ((galleyref02_at.f l0 (wrap64 (a1 + 3))).bind fun t214 => ((galleyref02_in.f t211 0 127).bind fun t215 => (if t215 = true then (some 1) else ((galleyref02_in.f t211 194 223).bind fun t216 => (if t216 = true then ((galleyref02_in.f t212 128 191).bind fun t217 => (galleyref02_Long.j0 k t211 t212 t213 t214 t217)) else (galleyref02_Long.j0 k t211 t212 t213 t214 false))))))))
end Go.Proofs.YtaojbcplmdjfnaaDoor.Pr

namespace Go.Proofs.YtaojbcplmdjfnaaDoor.Pr
open Go.RowKit Go.Proofs.YtaojbcplmdjfnaaDoorW.PrintWords Go.Proofs.YtaojbcplmdjfnaaDoorW.PrintLast Go.Proofs.YtaojbcplmdjfnaaDoorW.PrintMore
attribute [local go_sem] max2_int min2_int max_two min_two max_three min_three max_four min_four   -- for this text's walks alone
set_option linter.unusedVariables false
set_option linter.unusedSimpArgs false
def galleyref02_Inside.l0 : Nat → List Int → Int → Int → Option (Bool)
 | 0, _, _, _ => none
 | k + 1, x0, x1, x5 => if x5 ≤ 3 then (if (wrap64 (x1 - x5)) ≥ 0 then ((galleyref02_Long.f k x0 (wrap64 (x1 - x5))).bind fun t255 => (if t255 > x5 then (some true) else (galleyref02_Inside.l0 k x0 x1 (wrap64 (x5 + 1))))) else (galleyref02_Inside.l0 k x0 x1 (wrap64 (x5 + 1)))) else (some false)
def galleyref02_Inside.f (k : Nat) (l0 : List Int) (a1 : Int) : Option (Bool) := galleyref02_Inside.l0 k l0 a1 1
def galleyref02_Edges.l0 : Nat → List Int → List Int → Int → Option (List Int)
 | 0, _, _, _ => none
 | k + 1, x0, x3, x4 => if x4 ≤ (x0.length : Int) then ((galleyref02_Inside.f k x0 x4).bind fun t256 => (if t256 = true then (galleyref02_Edges.l0 k x0 x3 (wrap64 (x4 + 1))) else (if x3.length < 17592186044416 then (galleyref02_Edges.l0 k x0 (x3 ++ [x4]) (wrap64 (x4 + 1))) else (none)))) else (some x3)
def galleyref02_Edges.f (k : Nat) (l0 : List Int) : Option (List Int) := galleyref02_Edges.l0 k l0 ([] : List Int) 0
mutual
def galleyref02_Of.j0 : Nat → List Int → Int → Int → Int → Option (Int × Int × Bool)
 | 0, _, _, _, _ => none
 | k + 1, x0, x1, x5, x6 => galleyref02_Of.l0 k x0 x1 x5 x6 1
def galleyref02_Of.l0 : Nat → List Int → Int → Int → Int → Int → Option (Int × Int × Bool)
 | 0, _, _, _, _, _ => none
 | k + 1, x0, x1, x5, x6, x7 => if x7 < x5 then (if 0 ≤ (wrap64 (x1 + x7)) then (if (wrap64 (x1 + x7)) < (x0.length : Int) then (galleyref02_Of.l0 k x0 x1 x5 (wrap64 ((wrap64 (x6 * 64)) + (Int.tmod (wrap64 (rd x0 (wrap64 (x1 + x7)))) 64))) (wrap64 (x7 + 1))) else (none)) else (none)) else (some (wrap32 (x6), x5, true))
end
def galleyref02_Of.f (k : Nat) (l0 : List Int) (a1 : Int) : Option (Int × Int × Bool) := (galleyref02_Long.f k l0 a1).bind fun t261 => (if t261 = 0 then (some (65533, 1, false)) else (if 0 ≤ a1 then (if a1 < (l0.length : Int) then (if t261 = 2 then (galleyref02_Of.j0 k l0 a1 t261 (Int.tmod (wrap64 (rd l0 a1)) 32)) else (if t261 = 3 then (galleyref02_Of.j0 k l0 a1 t261 (Int.tmod (wrap64 (rd l0 a1)) 16)) else (if t261 = 4 then (galleyref02_Of.j0 k l0 a1 t261 (Int.tmod (wrap64 (rd l0 a1)) 8)) else (galleyref02_Of.j0 k l0 a1 t261 (wrap64 (rd l0 a1)))))) else (none)) else (none)))
def galleyref02_Steps.l0 : Nat → List Int → List (S57) → List Int → Int → Option ((List (S57)))
 | 0, _, _, _, _ => none
 | k + 1, x0, x3, x4, x5 => if (wrap64 (x5 + 1)) < (x4.length : Int) then (if 0 ≤ x5 then (if x5 < (x4.length : Int) then ((galleyref02_Of.f k x0 (rd x4 x5)).bind fun bt268 => (if x3.length < 5864062014805 then (galleyref02_Steps.l0 k x0 (x3 ++ [(⟨bt268.1, bt268.2.1, bt268.2.2⟩ : S57)]) x4 (wrap64 (x5 + 1))) else (none))) else (none)) else (none)) else (some x3)
def galleyref02_Steps.f (k : Nat) (l0 : List Int) : Option ((List (S57))) := (galleyref02_Edges.f k l0).bind fun t264 => (galleyref02_Steps.l0 k l0 ([] : List (S57)) t264 0)
def galleyref05_units.f (a0_0 : Int) (a0_1 : Int) (a0_2 : Bool) : Option (Int) := if a0_0 > 65535 then (some 2) else (some 1)
end Go.Proofs.YtaojbcplmdjfnaaDoor.Pr

namespace Go.Proofs.YtaojbcplmdjfnaaDoor.Pr
open Go.RowKit Go.Proofs.YtaojbcplmdjfnaaDoorW.PrintWords Go.Proofs.YtaojbcplmdjfnaaDoorW.PrintLast Go.Proofs.YtaojbcplmdjfnaaDoorW.PrintMore
attribute [local go_sem] max2_int min2_int max_two min_two max_three min_three max_four min_four   -- for this text's walks alone
set_option linter.unusedVariables false
set_option linter.unusedSimpArgs false
mutual
def galleyref05_Sizes.l0 : Nat → List Int → List (S57) → Int → Int → Int → Int → Int → Option (Int × Int × Int × Int)
 | 0, _, _, _, _, _, _, _ => none
 | k + 1, x0, x4, x5, x277000, x277001, x277002, x277003 => if x5 < (x4.length : Int) then (if 0 ≤ x5 then ((galleyref05_units.f ((rd_T57 x4 x5).f0) ((rd_T57 x4 x5).f1) ((rd_T57 x4 x5).f2)).bind fun t281 => (galleyref05_Sizes.l0 k x0 x4 (wrap64 (x5 + 1)) x277000 (wrap64 (x277001 + 1)) (wrap64 (x277002 + t281)) x277003)) else (none)) else (galleyref05_Sizes.l1 k x0 0 x277000 x277001 x277002 x277003)
def galleyref05_Sizes.l1 : Nat → List Int → Int → Int → Int → Int → Int → Option (Int × Int × Int × Int)
 | 0, _, _, _, _, _, _ => none
 | k + 1, x0, x6, x277000, x277001, x277002, x277003 => if x6 < (x0.length : Int) then (if 0 ≤ x6 then (if (rd x0 x6) = 10 then (if x6 = 0 then (galleyref05_Sizes.l1 k x0 (wrap64 (x6 + 1)) x277000 x277001 x277002 (wrap64 (x277003 + 1))) else (if 0 ≤ (wrap64 (x6 - 1)) then (if (wrap64 (x6 - 1)) < (x0.length : Int) then (if (rd x0 (wrap64 (x6 - 1))) = 13 then (if (rd x0 x6) = 13 then (galleyref05_Sizes.l1 k x0 (wrap64 (x6 + 1)) x277000 x277001 x277002 (wrap64 (x277003 + 1))) else (galleyref05_Sizes.l1 k x0 (wrap64 (x6 + 1)) x277000 x277001 x277002 x277003)) else (galleyref05_Sizes.l1 k x0 (wrap64 (x6 + 1)) x277000 x277001 x277002 (wrap64 (x277003 + 1)))) else (none)) else (none))) else (if (rd x0 x6) = 13 then (galleyref05_Sizes.l1 k x0 (wrap64 (x6 + 1)) x277000 x277001 x277002 (wrap64 (x277003 + 1))) else (galleyref05_Sizes.l1 k x0 (wrap64 (x6 + 1)) x277000 x277001 x277002 x277003))) else (none)) else (some (x277000, x277001, x277002, x277003))
end
def galleyref05_Sizes.f (k : Nat) (l0 : List Int) : Option (Int × Int × Int × Int) := (galleyref02_Steps.f k l0).bind fun t277 => (galleyref05_Sizes.l0 k l0 t277 0 (l0.length : Int) 0 0 0)
def galleyref05_head.f (a0 : ByteArray) : Option (ByteArray) := if 0 ≤ (mn 3 (a0.size : Int)) then (if (mn 3 (a0.size : Int)) ≤ (a0.size : Int) then (some (a0.extract 0 ((mn 3 (a0.size : Int)) : Int).toNat)) else (none)) else (none)
def galleyref05_tail.f (a0 : ByteArray) : Option (ByteArray) := if 0 ≤ (mx 0 (wrap64 ((a0.size : Int) - 3))) then (if (mx 0 (wrap64 ((a0.size : Int) - 3))) ≤ (a0.size : Int) then (some (a0.extract ((mx 0 (wrap64 ((a0.size : Int) - 3))) : Int).toNat a0.size)) else (none)) else (none)
def galleyref05_Of.f (k : Nat) (l0 : List Int) : Option (Int × Int × Int × Int × ByteArray × ByteArray) := if (l0.length : Int) > 268435456 then (some (0, 0, 0, 0, (⟨#[]⟩ : ByteArray), (⟨#[]⟩ : ByteArray))) else ((galleyref05_Sizes.f k l0).bind fun bt287 => ((galleyref05_head.f (strOfNums l0)).bind fun t291 => ((galleyref05_tail.f (strOfNums l0)).bind fun t292 => (some (bt287.1, bt287.2.1, bt287.2.2.1, bt287.2.2.2, t291, t292)))))
end Go.Proofs.YtaojbcplmdjfnaaDoor.Pr

namespace Go.Proofs.YtaojbcplmdjfnaaDoor.PuSz
open Go.RowKit Go.Proofs.YtaojbcplmdjfnaaDoor.Pr Go.Proofs.YtaojbcplmdjfnaaDoor.Math Go.Proofs.YtaojbcplmdjfnaaDoorW.PrintWords Go.Proofs.YtaojbcplmdjfnaaDoorW.PrintLast Go.Proofs.YtaojbcplmdjfnaaDoorW.PrintMore
set_option linter.unusedVariables false
set_option linter.unusedSimpArgs false
theorem w64 {n : Int} (h : -4611686018427387904 ≤ n) (h' : n ≤ 4611686018427387904) : wrap64 n = n := wrap64_in' (by omega) (by omega)
theorem rd_getD (l : List Int) (p : Int) (h : p.toNat < l.length) : rd l p = l.getD p.toNat (-1) := by simp [rd, List.getD, List.getElem?_eq_getElem h]
theorem stepF_eq (l : List Int) (hb : Byt l) (p : Nat) (hp : p < l.length) : (stepF ((strOfNums l).extract p (strOfNums l).size)).1 = ru (l.drop p) := by
  have hd : (Utf8.decode ((strOfNums l).extract p (strOfNums l).size) 0).1 = (Utf8.decode (strOfNums l) p).1 := by
    rw [Lib.tail_decode, Nat.add_zero]
  have he := (decode_eq l hb p hp).1
  unfold stepF
  rw [hd, ← he]
  split
  · rename_i h; rw [h.1]; rfl
  · rfl
theorem szAll_eq (l : List Int) (hb : Byt l) (hl : l.length ≤ 4294967296) (fuel : Nat) : ∀ (p : Nat) (z : Int × Int × Int × Int), p ≤ l.length → l.length ≤ p + fuel → 0 ≤ z.1 → z.1 ≤ p → 0 ≤ z.2.1 → z.2.1 ≤ 2 * p → 0 ≤ z.2.2.1 → z.2.2.1 ≤ p →
    ((stepsN (strOfNums l) fuel p).foldl szStep z).1 = z.1 + rn (l.drop p) ∧ ((stepsN (strOfNums l) fuel p).foldl szStep z).2.1 = z.2.1 + (rn (l.drop p) + fr (l.drop p)) ∧ ((stepsN (strOfNums l) fuel p).foldl szStep z).2.2.1 = z.2.2.1 + en z.2.2.2 (l.drop p) := by
  have hsz : (strOfNums l).size = l.length := by
    show (strOfNums l).data.size = _
    rw [← Array.length_toList, strOfNums_data, List.length_map]
  induction fuel with
  | zero =>
    intro p z hp hf _ _ _ _ _ _
    have : p = l.length := by omega
    subst this
    simp [stepsN, rn, fr, en]
  | succ fuel ih =>
    intro p z hp hf h1 h2 h3 h4 h5 h6
    by_cases hlt : p < l.length
    · have hd := decode_eq l hb p hlt
      have hw := wd_pos (l.drop p)
      have hwl : p + wd (l.drop p) ≤ l.length := by
        have := lg_len (l.drop p); simp at this
        unfold wd; split <;> omega
      obtain ⟨x, t, hxt⟩ : ∃ x t, l.drop p = x :: t := by
        cases h : l.drop p with
        | nil => have := congrArg List.length h; simp at this; omega
        | cons x t => exact ⟨x, t, rfl⟩
      have h0 : 0 ≤ x := (hb.drop p x (by rw [hxt]; simp)).1
      have hr := ru_facts x t h0
      have hdd : l.drop (p + wd (l.drop p)) = (x :: t).drop (wd (x :: t)) := by rw [← hxt, List.drop_drop]
      rw [stepsN, if_pos (by rw [hsz]; exact hlt), List.foldl_cons, hd.2]
      have hun : unitsN (ru (l.drop p)) = if lg (x :: t) = 4 then 2 else 1 := by
        unfold unitsN
        rw [hxt]
        by_cases h : lg (x :: t) = 4
        · rw [if_pos (hr.2.2.1.2 h), if_pos h]
        · rw [if_neg (fun c => h (hr.2.2.1.1 c)), if_neg h]
      have hu : (if lg (x :: t) = 4 then (2 : Int) else 1) = 2 ∨ (if lg (x :: t) = 4 then (2 : Int) else 1) = 1 := by split <;> simp
      have hst : szStep z (p, stepF ((strOfNums l).extract p (strOfNums l).size)) = (z.1 + 1, z.2.1 + (if lg (x :: t) = 4 then 2 else 1), z.2.2.1 + (if ru (x :: t) = 13 ∨ (ru (x :: t) = 10 ∧ z.2.2.2 ≠ 13) then 1 else 0), ru (x :: t)) := by
        unfold szStep
        simp only [stepF_eq l hb p hlt]
        rw [hun, w64 (by omega) (by omega), w64 (by omega) (by omega), w64 (by omega) (by omega), hxt]
        congr 3
        split <;> simp
      have hen : (if ru (x :: t) = 13 ∨ (ru (x :: t) = 10 ∧ z.2.2.2 ≠ 13) then (1 : Int) else 0) = 1 ∨ (if ru (x :: t) = 13 ∨ (ru (x :: t) = 10 ∧ z.2.2.2 ≠ 13) then (1 : Int) else 0) = 0 := by split <;> simp
      rw [hst]
      have hi := ih (p + wd (l.drop p)) (z.1 + 1, z.2.1 + (if lg (x :: t) = 4 then 2 else 1), z.2.2.1 + (if ru (x :: t) = 13 ∨ (ru (x :: t) = 10 ∧ z.2.2.2 ≠ 13) then 1 else 0), ru (x :: t)) hwl (by omega)
        (by show 0 ≤ z.1 + 1; omega) (by show z.1 + 1 ≤ ((p + wd (l.drop p) : Nat) : Int); omega) (by show 0 ≤ z.2.1 + _; omega) (by show z.2.1 + _ ≤ 2 * ((p + wd (l.drop p) : Nat) : Int); omega) (by show 0 ≤ z.2.2.1 + _; omega) (by show z.2.2.1 + _ ≤ ((p + wd (l.drop p) : Nat) : Int); omega)
      obtain ⟨i1, i2, i3⟩ := hi
      refine ⟨i1.trans ?_, i2.trans ?_, i3.trans ?_⟩
      · rw [hdd, hxt, rn_step]; show z.1 + 1 + _ = _; omega
      · rw [hdd, hxt, rn_step, fr_step]
        show z.2.1 + _ + _ = _
        have : (if lg (x :: t) = 4 then (2 : Int) else 1) = 1 + (if lg (x :: t) = 4 then 1 else 0) := by split <;> rfl
        omega
      · rw [hdd, hxt, en_step _ _ _ h0]; show z.2.2.1 + _ + en (ru (x :: t)) _ = _; omega
    · have : p = l.length := by omega
      subst this
      rw [stepsN, if_neg (by rw [hsz]; exact hlt)]
      simp [rn, fr, en]
theorem weldSizes_eq (l : List Int) (hb : Byt l) (hl : l.length ≤ 4294967296) : weld_Sizes.f l = some ((l.length : Int), rn l, rn l + fr l, en 0 l) := by
  have hsz : (strOfNums l).size = l.length := by
    show (strOfNums l).data.size = _
    rw [← Array.length_toList, strOfNums_data, List.length_map]
  have h := szAll_eq l hb hl (strOfNums l).size 0 (0, 0, 0, 0) (by omega) (by rw [hsz]; omega) (by decide) (by decide) (by decide) (by decide) (by decide) (by decide)
  rw [List.drop_zero] at h
  unfold weld_Sizes.f szAll
  rw [h.1, h.2.1, h.2.2]
  simp
end Go.Proofs.YtaojbcplmdjfnaaDoor.PuSz

namespace Go.Proofs.YtaojbcplmdjfnaaDoor.Pr
open Go.RowKit Go.Proofs.YtaojbcplmdjfnaaDoorW.PrintWords Go.Proofs.YtaojbcplmdjfnaaDoorW.PrintLast Go.Proofs.YtaojbcplmdjfnaaDoorW.PrintMore
attribute [local go_sem] max2_int min2_int max_two min_two max_three min_three max_four min_four   -- for this text's walks alone
set_option linter.unusedVariables false
set_option linter.unusedSimpArgs false
attribute [local go_sem high] eqA24
def galleyref05_all.f (a0_0 : Int) (a0_1 : Int) (a0_2 : Int) (a0_3 : Int) (a0_4 : ByteArray) (a0_5 : ByteArray) : Option (ByteArray × Bool) := if a0_0 ≤ 3 then (some (a0_4, (a0_4.toList == a0_5.toList))) else (if 0 ≤ (wrap64 (6 - a0_0)) then (if (wrap64 (6 - a0_0)) ≤ (a0_5.size : Int) then (if a0_4.size + (a0_5.extract ((wrap64 (6 - a0_0)) : Int).toNat a0_5.size).size ≤ 9223372036854775807 then (if 0 ≤ (wrap64 (3 - (wrap64 (6 - a0_0)))) then (if (wrap64 (3 - (wrap64 (6 - a0_0)))) ≤ (a0_4.size : Int) then (some (a0_4 ++ (a0_5.extract ((wrap64 (6 - a0_0)) : Int).toNat a0_5.size), ((a0_4.extract ((wrap64 (3 - (wrap64 (6 - a0_0)))) : Int).toNat a0_4.size).toList == (a0_5.extract 0 ((wrap64 (6 - a0_0)) : Int).toNat).toList))) else (none)) else (none)) else (none)) else (none)) else (none))
def galleyref05_Valid.j0 : Nat → Bool → Int → Int → Int → Int → ByteArray → ByteArray → Int → Int → Int → Int → Option (Bool)
 | 0, _, _, _, _, _, _, _, _, _, _, _ => none
 | k + 1, x36, x296000, x296001, x296002, x296003, x296004, x296005, x297000, x297001, x297002, x297003 => if x36 = true then (some false) else (if x297000 ≤ 6 then ((galleyref05_all.f x296000 x296001 x296002 x296003 x296004 x296005).bind fun bt297 => (if bt297.2 = true then (if bt297.1.size ≤ 9223372036854775807 then ((galleyref05_Sizes.f k (bytesOf bt297.1)).bind fun bt302 => (some (bt302.1 == x297000 && (bt302.2.1 == x297001 && (bt302.2.2.1 == x297002 && (bt302.2.2.2 == x297003)))))) else (none)) else (some false))) else (if x297001 < 0 then (some false) else (if x297001 > x297000 then (some false) else (if x297002 < x297001 then (some false) else (if x297002 > (wrap64 (2 * x297001)) then (some false) else (if (wrap64 (x297000 - (wrap64 (4 * (wrap64 (x297002 - x297001)))))) ≥ (wrap64 (x297001 - (wrap64 (x297002 - x297001)))) then (if (wrap64 (x297000 - (wrap64 (4 * (wrap64 (x297002 - x297001)))))) ≤ (wrap64 (3 * (wrap64 (x297001 - (wrap64 (x297002 - x297001)))))) then (if x297003 ≥ 0 then (some (decide (x297003 ≤ x297001))) else (some false)) else (some false)) else (some false)))))))
def galleyref05_Valid.f (k : Nat) (a0_0 : Int) (a0_1 : Int) (a0_2 : Int) (a0_3 : Int) (a0_4 : ByteArray) (a0_5 : ByteArray) : Option (Bool) := if a0_0 < 0 then (galleyref05_Valid.j0 k true a0_0 a0_1 a0_2 a0_3 a0_4 a0_5 a0_0 a0_1 a0_2 a0_3) else (if a0_0 > 268435456 then (galleyref05_Valid.j0 k true a0_0 a0_1 a0_2 a0_3 a0_4 a0_5 a0_0 a0_1 a0_2 a0_3) else (if (a0_4.size : Int) = (mn 3 a0_0) then (galleyref05_Valid.j0 k ((a0_5.size : Int) != (mn 3 a0_0)) a0_0 a0_1 a0_2 a0_3 a0_4 a0_5 a0_0 a0_1 a0_2 a0_3) else (galleyref05_Valid.j0 k true a0_0 a0_1 a0_2 a0_3 a0_4 a0_5 a0_0 a0_1 a0_2 a0_3)))
end Go.Proofs.YtaojbcplmdjfnaaDoor.Pr

namespace Go.Proofs.YtaojbcplmdjfnaaDoor.PuMs
open Go.RowKit Go.Proofs.YtaojbcplmdjfnaaDoor.Pr Go.Proofs.YtaojbcplmdjfnaaDoor.Math Go.Proofs.YtaojbcplmdjfnaaDoor.PuSz Go.Proofs.YtaojbcplmdjfnaaDoorW.PrintWords Go.Proofs.YtaojbcplmdjfnaaDoorW.PrintLast Go.Proofs.YtaojbcplmdjfnaaDoorW.PrintMore
set_option linter.unusedVariables false
set_option linter.unusedSimpArgs false
theorem bo_byt (s : ByteArray) : Byt (bytesOf s) := by
  intro x hx
  unfold bytesOf at hx
  obtain ⟨b, _, rfl⟩ := List.mem_map.1 hx
  have := UInt8.toNat_lt b
  omega
theorem bo_str (l : List Int) (hb : Byt l) : bytesOf (strOfNums l) = l := by
  unfold bytesOf
  rw [strOfNums_data, List.map_map]
  conv => rhs; rw [← List.map_id l]
  apply List.map_congr_left
  intro x hx
  have := hb x hx
  simp [UInt8.toNat_ofNat']
  omega
theorem ba_ext {s t : ByteArray} (h : s.data.toList = t.data.toList) : s = t := by
  cases s; cases t
  simp only [ByteArray.mk.injEq]
  exact Array.toList_inj.1 h
theorem bo_inj {s t : ByteArray} (h : bytesOf s = bytesOf t) : s = t := by
  apply ba_ext
  unfold bytesOf at h
  exact (List.map_inj_right (fun x y e => UInt8.toNat_inj.1 (by omega))).1 h
theorem bo_append (s t : ByteArray) : bytesOf (s ++ t) = bytesOf s ++ bytesOf t := by unfold bytesOf; rw [ByteArray.data_append, Array.toList_append, List.map_append]
theorem bo_extract (s : ByteArray) (a b : Nat) : bytesOf (s.extract a b) = ((bytesOf s).drop a).take (b - a) := by unfold bytesOf; rw [Lib.extract_data, List.map_take, List.map_drop]
theorem tl_eq (s t : ByteArray) : s.toList = t.toList ↔ bytesOf s = bytesOf t := by
  rw [ByteArray.toList_eq, ByteArray.toList_eq]
  constructor
  · intro h; rw [ba_ext h]
  · intro h; rw [bo_inj h]
theorem tl_beq (s t : ByteArray) : (s.toList == t.toList) = decide (bytesOf s = bytesOf t) := by
  rw [Bool.eq_iff_iff, beq_iff_eq, decide_eq_true_eq, tl_eq]
theorem sz_str (l : List Int) : (strOfNums l).size = l.length := strOfNums_size l
theorem ex_head (s : ByteArray) : bytesOf (s.extract 0 (mn 3 (s.size : Int)).toNat) = (bytesOf s).take 3 := by
  rw [bo_extract, List.drop_zero, Nat.sub_zero]
  unfold mn
  split
  · rw [Int.toNat_natCast, List.take_of_length_le (by rw [bytesOf_length]; omega), List.take_of_length_le (by rw [bytesOf_length]; omega)]
  · rfl
theorem ex_tail (s : ByteArray) (a : Nat) : bytesOf (s.extract a s.size) = (bytesOf s).drop a := by
  rw [bo_extract, List.take_of_length_le (by rw [List.length_drop, bytesOf_length]; omega)]
theorem mx_tail (n : Nat) : (mx 0 ((n : Int) - 3)).toNat = n - 3 := by unfold mx; split <;> omega
theorem mx_le (n : Nat) : 0 ≤ mx 0 ((n : Int) - 3) ∧ mx 0 ((n : Int) - 3) ≤ n := by unfold mx; split <;> omega
theorem mn_le (n : Nat) : 0 ≤ mn 3 (n : Int) ∧ mn 3 (n : Int) ≤ n ∧ (mn 3 (n : Int)).toNat = min 3 n := by unfold mn; split <;> omega
theorem head_eq' (s : ByteArray) : weld_head.f s = some (strOfNums ((bytesOf s).take 3)) := by
  have h := mn_le s.size
  unfold weld_head.f
  rw [if_pos h.1, if_pos h.2.1]
  congr 1
  apply bo_inj
  rw [ex_head, bo_str _ ((bo_byt s).take 3)]
theorem tail_eq (s : ByteArray) (hs : s.size ≤ 4611686018427387904) : weld_tail.f s = some (strOfNums ((bytesOf s).drop (s.size - 3))) := by
  have h := mx_le s.size
  unfold weld_tail.f
  rw [w64 (by omega) (by omega), if_pos h.1, if_pos h.2]
  congr 1
  apply bo_inj
  rw [mx_tail, ex_tail, bo_str _ ((bo_byt s).drop _)]
abbrev Ms := Int × Int × Int × Int × ByteArray × ByteArray
def mOf (l : List Int) : Ms := ((l.length : Int), rn l, rn l + fr l, en 0 l, strOfNums (l.take 3), strOfNums (l.drop (l.length - 3)))
def m0 : Ms := (0, 0, 0, 0, ⟨#[]⟩, ⟨#[]⟩)
theorem mOf_nil : mOf [] = m0 := by
  unfold mOf m0
  rfl
theorem weldOf_eq (l : List Int) (hb : Byt l) (hl : l.length ≤ 268435456) : weld_Of.f l = some (mOf l) := by
  have h := mn_le l.length
  have h' := mx_le l.length
  unfold weld_Of.f
  rw [if_neg (by omega), weldSizes_eq l hb (by omega)]
  simp only [Option.bind_some]
  rw [if_pos h.1, if_pos h.2.1, w64 (by omega) (by omega), if_pos h'.1, if_pos h'.2, mx_tail, h.2.2]
  unfold mOf
  have e : l.take (min 3 l.length) = l.take 3 := by
    by_cases h3 : l.length ≤ 3
    · rw [List.take_of_length_le (by omega), List.take_of_length_le h3]
    · rw [show min 3 l.length = 3 by omega]
  rw [e]
theorem ends_six (n : Nat) (hn : n ≤ 6) (H T : List Int) (hH : H.length = min 3 n) (hT : T.length = min 3 n) (he : H.drop (n - T.length) = T.take (H.length + T.length - n)) :
    (H ++ T.drop (H.length + T.length - n)).length = n ∧ (H ++ T.drop (H.length + T.length - n)).take 3 = H ∧ (H ++ T.drop (H.length + T.length - n)).drop (n - 3) = T := by
  have e1 : (H ++ T.drop (H.length + T.length - n)).length = n := by rw [List.length_append, List.length_drop]; omega
  refine ⟨e1, ?_, ?_⟩
  · by_cases h3 : 3 ≤ n
    · rw [show 3 = H.length by omega, List.take_left]
    · rw [List.take_of_length_le (by omega), List.drop_of_length_le (by omega), List.append_nil]
  · have e2 : H ++ T.drop (H.length + T.length - n) = H.take (n - T.length) ++ T := by
      have e0 : H.take (n - T.length) ++ T.take (H.length + T.length - n) = H := by rw [← he, List.take_append_drop]
      generalize H.length + T.length - n = o at *
      rw [show H ++ T.drop o = (H.take (n - T.length) ++ T.take o) ++ T.drop o by rw [e0], List.append_assoc, List.take_append_drop]
    rw [e2]
    have e3 : n - 3 = (H.take (n - T.length)).length := by rw [List.length_take]; omega
    rw [e3, List.drop_left]
theorem weldShort_eq (n r u e : Int) (h t : ByteArray) (hn : 0 ≤ n ∧ n ≤ 6) (hh : (h.size : Int) = min 3 n) (ht : (t.size : Int) = min 3 n) :
    weld_short.f n r u e h t = some (if (bytesOf h).drop (n.toNat - t.size) = (bytesOf t).take (h.size + t.size - n.toNat) then (strOfNums (bytesOf h ++ (bytesOf t).drop (h.size + t.size - n.toNat)), true) else (⟨#[]⟩, false)) := by
  have s1 : wrap64 ((h.size : Int) + (t.size : Int)) = ((h.size + t.size : Nat) : Int) := by rw [w64 (by omega) (by omega)]; omega
  have s2 : wrap64 (((h.size + t.size : Nat) : Int) - n) = ((h.size + t.size - n.toNat : Nat) : Int) := by rw [w64 (by omega) (by omega)]; omega
  have s3 : wrap64 ((h.size : Int) - ((h.size + t.size - n.toNat : Nat) : Int)) = ((n.toNat - t.size : Nat) : Int) := by rw [w64 (by omega) (by omega)]; omega
  unfold weld_short.f
  rw [s1, s2, s3, if_pos (by omega), if_pos (by omega), if_pos (by omega), if_pos (by omega)]
  simp only [Int.toNat_natCast, tl_eq]
  rw [ex_tail, bo_extract, List.drop_zero, Nat.sub_zero]
  by_cases hc : (bytesOf h).drop (n.toNat - t.size) = (bytesOf t).take (h.size + t.size - n.toNat)
  · rw [if_pos hc, if_pos hc, if_pos (by rw [ByteArray.size_extract]; omega)]
    congr 2
    apply bo_inj
    rw [bo_append, ex_tail, bo_str _ ((bo_byt h).append ((bo_byt t).drop _))]
  · rw [if_neg hc, if_neg hc]
theorem vldB_in (n r u e : Int) (H T : List Int) (hn : 0 ≤ n ∧ n ≤ 268435456) (hh : (H.length : Int) = min 3 n) (ht : (T.length : Int) = min 3 n) : vldB n r u e H T =
    if n ≤ 6 then decide (H.drop (n.toNat - T.length) = T.take (H.length + T.length - n.toNat)) && decide (r = rn (H ++ T.drop (H.length + T.length - n.toNat)) ∧ u = rn (H ++ T.drop (H.length + T.length - n.toNat)) + fr (H ++ T.drop (H.length + T.length - n.toNat)) ∧ e = en 0 (H ++ T.drop (H.length + T.length - n.toNat)))
    else decide (0 ≤ r ∧ r ≤ n ∧ r ≤ u ∧ u ≤ 2 * r ∧ r - (u - r) ≤ n - 4 * (u - r) ∧ n - 4 * (u - r) ≤ 3 * (r - (u - r)) ∧ 0 ≤ e ∧ e ≤ r) := by
  unfold vldB
  rw [if_neg (by omega)]
theorem weldValid_j0 (k : Nat) (n r u e : Int) (h t : ByteArray) (hn : 0 ≤ n ∧ n ≤ 268435456) (hh : (h.size : Int) = min 3 n) (ht : (t.size : Int) = min 3 n) (hr : -9223372036854775808 ≤ r ∧ r ≤ 9223372036854775807) (hu : -9223372036854775808 ≤ u ∧ u ≤ 9223372036854775807) :
    weld_Valid.j0 (k + 1) false n r u e h t n r u e = some (vldB n r u e (bytesOf h) (bytesOf t)) := by
  rw [vldB_in n r u e (bytesOf h) (bytesOf t) hn (by rw [bytesOf_length]; exact hh) (by rw [bytesOf_length]; exact ht)]
  simp only [weld_Valid.j0, Bool.false_eq_true, if_false]
  by_cases h6 : n ≤ 6
  · rw [if_pos h6, if_pos h6, weldShort_eq n r u e h t ⟨hn.1, h6⟩ hh ht]
    simp only [Option.bind_some, bytesOf_length]
    by_cases hc : (bytesOf h).drop (n.toNat - t.size) = (bytesOf t).take (h.size + t.size - n.toNat)
    · have hs := ends_six n.toNat (by omega) (bytesOf h) (bytesOf t) (by rw [bytesOf_length]; omega) (by rw [bytesOf_length]; omega) (by rw [bytesOf_length, bytesOf_length]; exact hc)
      rw [bytesOf_length, bytesOf_length] at hs
      have hB : Byt (bytesOf h ++ (bytesOf t).drop (h.size + t.size - n.toNat)) := (bo_byt h).append ((bo_byt t).drop _)
      simp only [if_pos hc, if_true]
      generalize bytesOf h ++ (bytesOf t).drop (h.size + t.size - n.toNat) = B at *
      rw [if_pos (by rw [sz_str]; omega), bo_str B hB, weldOf_eq B hB (by omega)]
      simp only [Option.bind_some, mOf, tl_beq, bo_str _ (hB.take 3), bo_str _ (hB.drop _)]
      rw [hs.1, hs.2.1, hs.2.2]
      congr 1
      have hnn : ((n.toNat : Nat) : Int) = n := by omega
      rw [hnn]
      rw [Bool.eq_iff_iff]
      simp
      exact fun _ _ _ => hc
    · simp only [if_neg hc, Bool.false_eq_true, if_false]
      rw [decide_eq_false hc, Bool.false_and]
  · rw [if_neg h6, if_neg h6]
    by_cases c1 : r ≥ 0
    · rw [if_pos c1]
      by_cases c2 : r ≤ n
      · rw [if_pos c2]
        by_cases c3 : u ≥ 0
        · rw [if_pos c3]
          by_cases c4 : u ≤ n
          · rw [if_pos c4, w64 (n := u - r) (by omega) (by omega), w64 (n := r - (u - r)) (by omega) (by omega), w64 (n := 4 * (u - r)) (by omega) (by omega), w64 (n := n - 4 * (u - r)) (by omega) (by omega), w64 (n := 3 * (r - (u - r))) (by omega) (by omega)]
            (repeat' split) <;> (congr 1; rw [Bool.eq_iff_iff]; simp only [decide_eq_true_eq, Bool.false_eq_true, false_iff]; omega)
          · rw [if_neg c4]; congr 1; symm; rw [decide_eq_false_iff_not]; omega
        · rw [if_neg c3]; congr 1; symm; rw [decide_eq_false_iff_not]; omega
      · rw [if_neg c2]; congr 1; symm; rw [decide_eq_false_iff_not]; omega
    · rw [if_neg c1]; congr 1; symm; rw [decide_eq_false_iff_not]; omega
theorem weldValid_eq (k : Nat) (n r u e : Int) (h t : ByteArray) (hr : -9223372036854775808 ≤ r ∧ r ≤ 9223372036854775807) (hu : -9223372036854775808 ≤ u ∧ u ≤ 9223372036854775807) :
    weld_Valid.f (k + 1) n r u e h t = some (vldB n r u e (bytesOf h) (bytesOf t)) := by
  have hF : ∀ x y z w, weld_Valid.j0 (k + 1) true n r u e h t x y z w = some false := fun x y z w => by simp [weld_Valid.j0]
  have hV : (n < 0 ∨ n > 268435456 ∨ (h.size : Int) ≠ min 3 n ∨ (t.size : Int) ≠ min 3 n) → vldB n r u e (bytesOf h) (bytesOf t) = false := fun c => by
    unfold vldB; rw [bytesOf_length, bytesOf_length, if_pos c]
  have hm : mn 3 n = min 3 n := by unfold mn; split <;> omega
  unfold weld_Valid.f
  rw [hm]
  by_cases h1 : n < 0
  · rw [if_pos h1, hF, hV (by omega)]
  · rw [if_neg h1]
    by_cases h2 : n > 268435456
    · rw [if_pos h2, hF, hV (by omega)]
    · rw [if_neg h2]
      by_cases h3 : (h.size : Int) = min 3 n
      · rw [if_pos h3]
        by_cases h4 : (t.size : Int) = min 3 n
        · rw [show ((t.size : Int) != min 3 n) = false by simp [h4]]
          exact weldValid_j0 k n r u e h t (by omega) h3 h4 hr hu
        · rw [show ((t.size : Int) != min 3 n) = true by simp [h4], hF, hV (by omega)]
      · rw [if_neg h3, hF, hV (by omega)]
end Go.Proofs.YtaojbcplmdjfnaaDoor.PuMs

namespace Go.Proofs.YtaojbcplmdjfnaaDoor.Ev
open Go.RowKit Go.Proofs.YtaojbcplmdjfnaaDoor.Pr Go.Proofs.YtaojbcplmdjfnaaDoor.Math Go.Proofs.YtaojbcplmdjfnaaDoorW.PrintWords Go.Proofs.YtaojbcplmdjfnaaDoorW.PrintLast
set_option linter.unusedVariables false
set_option linter.unusedSimpArgs false
theorem o_Class (b : Int) (h : 0 ≤ b ∧ b ≤ 255) : octet_Class.f b = some (cls b) := by unfold octet_Class.f; rw [if_pos h]; rfl
theorem o_Need (b : Int) (h : 0 ≤ b ∧ b ≤ 255) : octet_Need.f b = some (need b) := by unfold octet_Need.f; rw [if_pos h]; rfl
theorem o_second (a : Int) (h : 0 ≤ a ∧ a ≤ 255) : octet_second.f a = some (if a = 224 then (160, 191) else if a = 237 then (128, 159) else if a = 240 then (144, 191) else if a = 244 then (128, 143) else if need a > 1 then (128, 191) else (1, 0)) := by
  unfold octet_second.f
  rw [o_Need a h]
  simp only [Option.bind_some]
  (repeat' split) <;> rfl
theorem o_Second (a b : Int) (h : 0 ≤ a ∧ a ≤ 255) : octet_Second.f a b = some (sec a b) := by
  unfold octet_Second.f
  rw [o_second a h]
  simp only [Option.bind_some]
  unfold sec
  (repeat' split) <;> simp_all <;> omega
theorem o_Whole (k : Nat) (l : List Int) (h : Byt l) : octet_Whole.f (k + 9) l = some (whole l) := by
  unfold octet_Whole.f
  match l, h with
  | [], _ => simp [octet_Whole.j0, whole]
  | [x0], h =>
    have b0 := h x0 (by simp)
    simp only [rd, List.length_cons, List.length_nil, Int.toNat_zero, List.getD_cons_zero]
    rw [if_neg (by simp), if_pos (by simp), o_Need x0 b0]
    simp only [Option.bind_some, octet_Whole.j0, drop1, whole]
    by_cases hn : need x0 = 1
    · simp [hn, octet_Whole.l0]
    · simp [hn]
  | [x0, x1], h =>
    have b0 := h x0 (by simp)
    have b1 := h x1 (by simp)
    simp only [rd, List.length_cons, List.length_nil, Int.toNat_zero, List.getD_cons_zero]
    rw [if_neg (by simp), if_pos (by simp), o_Need x0 b0]
    simp only [Option.bind_some, octet_Whole.j0, drop1, whole]
    by_cases hn : need x0 = 2
    · have st := @sec_tail x0 x1
      simp [hn, octet_Whole.l0, rd, o_Second x0 x1 b0, o_Class x1 b1, cls_two x1 b1.1 b1.2, wrap64_in', tl]
      (repeat' split) <;> simp_all
    · simp [hn]
  | [x0, x1, x2], h =>
    have b0 := h x0 (by simp)
    have b1 := h x1 (by simp)
    have b2 := h x2 (by simp)
    simp only [rd, List.length_cons, List.length_nil, Int.toNat_zero, List.getD_cons_zero]
    rw [if_neg (by simp), if_pos (by simp), o_Need x0 b0]
    simp only [Option.bind_some, octet_Whole.j0, drop1, whole]
    by_cases hn : need x0 = 3
    · have st := @sec_tail x0 x1
      simp [hn, octet_Whole.l0, rd, o_Second x0 x1 b0, o_Class x1 b1, cls_two x1 b1.1 b1.2, o_Class x2 b2, cls_two x2 b2.1 b2.2, wrap64_in', tl]
      (repeat' split) <;> simp_all
    · simp [hn]
  | [x0, x1, x2, x3], h =>
    have b0 := h x0 (by simp)
    have b1 := h x1 (by simp)
    have b2 := h x2 (by simp)
    have b3 := h x3 (by simp)
    simp only [rd, List.length_cons, List.length_nil, Int.toNat_zero, List.getD_cons_zero]
    rw [if_neg (by simp), if_pos (by simp), o_Need x0 b0]
    simp only [Option.bind_some, octet_Whole.j0, drop1, whole]
    by_cases hn : need x0 = 4
    · have st := @sec_tail x0 x1
      simp [hn, octet_Whole.l0, rd, o_Second x0 x1 b0, o_Class x1 b1, cls_two x1 b1.1 b1.2, o_Class x2 b2, cls_two x2 b2.1 b2.2, o_Class x3 b3, cls_two x3 b3.1 b3.2, wrap64_in', tl]
      cases hs : sec x0 x1 <;> by_cases h2 : 128 ≤ x2 <;> by_cases h2' : x2 ≤ 191 <;> by_cases h3 : 128 ≤ x3 <;> by_cases h3' : x3 ≤ 191 <;> simp_all <;> split <;> simp_all <;> omega
    · simp [hn]
  | x0 :: x1 :: x2 :: x3 :: x4 :: r, h =>
    have b0 := h x0 (by simp)
    have hl := need_le x0
    simp only [rd, List.length_cons, Int.toNat_zero, List.getD_cons_zero]
    rw [if_neg (by omega), if_pos (by omega), o_Need x0 b0]
    simp only [Option.bind_some, octet_Whole.j0, whole]
    rw [if_pos (by rw [bne_iff_ne]; omega)]
theorem u8_and127 {x : Int} (h₀ : 0 ≤ x) (h₁ : x < 256) : bits .and .u8 x 127 = x % 128 := bits_mask .u8 8 (by decide) wraps_u8 7 (by decide) x h₀ h₁
theorem head_eq {x m n : Int} (h : bits .and .u8 x m = n) (h0 : 0 ≤ n) (h1 : n < 256) : headV x m = n := by unfold headV; rw [h]; exact wrap32_in' (by omega) (by omega)
theorem step_eq {z c : Int} (h0 : 0 ≤ z) (h1 : z < 32768) (hc : 0 ≤ c ∧ c ≤ 255) : stepV z c = z * 64 + c % 64 := by
  unfold stepV
  rw [u8_and63 _ hc.1 (by omega), wrap32_in' (by omega) (by omega), wrap32_in' (by omega) (by omega), i32_or6 _ _ (by omega) (by omega) (by omega) (by omega) (by omega)]
theorem valL_eq (l : List Int) (h : Byt l) (hw : whole l = true) : valL l = some (num l) := by
  match l, h, hw with
  | [], _, hw => simp [whole] at hw
  | [x0], h, hw =>
    have b0 := h x0 (by simp)
    have hn : need x0 = 1 := by simpa [whole] using hw
    have : x0 < 128 := by unfold need at hn; (repeat' split at hn) <;> omega
    simp only [valL, num]
    rw [head_eq (u8_and127 b0.1 (by omega)) (by omega) (by omega)]
    congr 1
    omega
  | [x0, x1], h, hw =>
    have b0 := h x0 (by simp)
    have b1 := h x1 (by simp)
    simp only [valL, num]
    rw [head_eq (u8_and31 _ b0.1 (by omega)) (by omega) (by omega), step_eq (by omega) (by omega) b1]
  | [x0, x1, x2], h, hw =>
    have b0 := h x0 (by simp)
    have b1 := h x1 (by simp)
    have b2 := h x2 (by simp)
    simp only [valL, num]
    rw [head_eq (u8_and15 _ b0.1 (by omega)) (by omega) (by omega), step_eq (by omega) (by omega) b1, step_eq (by omega) (by omega) b2]
  | [x0, x1, x2, x3], h, hw =>
    have b0 := h x0 (by simp)
    have b1 := h x1 (by simp)
    have b2 := h x2 (by simp)
    have b3 := h x3 (by simp)
    simp only [valL, num]
    rw [head_eq (u8_and7 _ b0.1 (by omega)) (by omega) (by omega), step_eq (by omega) (by omega) b1, step_eq (by omega) (by omega) b2, step_eq (by omega) (by omega) b3]
  | _ :: _ :: _ :: _ :: _ :: _, _, hw => simp [whole] at hw
theorem o_Value (k : Nat) (l : List Int) (h : Byt l) : octet_Value.f (k + 9) l = some (val l) := by
  unfold octet_Value.f val
  rw [o_Whole k l h]
  simp only [Option.bind_some]
  split
  · rename_i hw
    exact valL_eq l h hw
  · rfl
theorem num_range (l : List Int) (h : Byt l) (hw : whole l = true) : 0 ≤ num l ∧ num l < 2097152 := by
  match l, h, hw with
  | [], _, hw => simp [whole] at hw
  | [x0], h, hw => have b0 := h x0 (by simp); simp only [num]; omega
  | [x0, x1], h, hw => simp only [num]; omega
  | [x0, x1, x2], h, hw => simp only [num]; omega
  | [x0, x1, x2, x3], h, hw => simp only [num]; omega
  | _ :: _ :: _ :: _ :: _ :: _, _, hw => simp [whole] at hw
theorem val_range (l : List Int) (h : Byt l) : -1 ≤ val l ∧ val l < 2097152 := by
  unfold val
  split
  · rename_i hw
    have := num_range l h hw
    omega
  · omega
theorem whole_iff (l : List Int) (h : Byt l) : whole l = true ↔ l ≠ [] ∧ lg l = l.length := by
  match l, h with
  | [], _ => simp [whole]
  | [x0], h =>
    have b0 := h x0 (by simp)
    simp only [whole, lg, List.length_cons, List.length_nil, decide_eq_true_eq, ne_eq, reduceCtorEq, not_false_eq_true, true_and]
    have := lgT_cases x0 (List.getD [] 0 (-1)) (List.getD [] 1 (-1)) (List.getD [] 2 (-1))
    constructor
    · intro hn
      unfold lgT; rw [if_pos (by unfold need at hn; (repeat' split at hn) <;> omega)]
    · intro hn
      rw [need_1 (by omega)]
  | [x0, x1], h =>
    simp only [whole, lg, List.length_cons, List.length_nil, Bool.and_eq_true, decide_eq_true_eq, ne_eq, reduceCtorEq, not_false_eq_true, true_and, List.getD_cons_zero, List.getD_cons_succ, sec_iff]
    have := lgT_cases x0 x1 (List.getD [] 0 (-1)) (List.getD [] 1 (-1))
    constructor
    · rintro ⟨hn, h1, h2⟩
      have hx : 194 ≤ x0 ∧ x0 < 224 := by unfold need at hn; (repeat' split at hn) <;> omega
      unfold lgT; rw [if_neg (by omega), if_pos (by omega)]
    · intro hn
      rw [need_2 (by omega) (by omega)]
      omega
  | [x0, x1, x2], h =>
    simp only [whole, lg, List.length_cons, List.length_nil, Bool.and_eq_true, decide_eq_true_eq, ne_eq, reduceCtorEq, not_false_eq_true, true_and, List.getD_cons_zero, List.getD_cons_succ, sec_iff, tl_iff]
    constructor
    · rintro ⟨hn, ⟨h1, h2⟩, h3⟩
      have hx : 224 ≤ x0 ∧ x0 < 240 := by unfold need at hn; (repeat' split at hn) <;> omega
      unfold lgT; rw [if_neg (by omega), if_neg (by omega), if_pos (by omega)]
    · intro hn
      unfold lgT at hn
      split at hn
      · omega
      · split at hn
        · omega
        · split at hn
          · rw [need_3 (by omega) (by omega)]; omega
          · split at hn <;> omega
  | [x0, x1, x2, x3], h =>
    simp only [whole, lg, List.length_cons, List.length_nil, Bool.and_eq_true, decide_eq_true_eq, ne_eq, reduceCtorEq, not_false_eq_true, true_and, List.getD_cons_zero, List.getD_cons_succ, sec_iff, tl_iff]
    constructor
    · rintro ⟨hn, ⟨h1, h2⟩, h3, h4⟩
      have hx : 240 ≤ x0 ∧ x0 < 245 := by unfold need at hn; (repeat' split at hn) <;> omega
      unfold lgT; rw [if_neg (by omega), if_neg (by omega), if_neg (by omega), if_pos (by omega)]
    · intro hn
      unfold lgT at hn
      split at hn
      · omega
      · split at hn
        · omega
        · split at hn
          · omega
          · split at hn
            · rw [need_4 (by omega) (by omega)]; omega
            · omega
  | x0 :: x1 :: x2 :: x3 :: x4 :: r, _ =>
    simp only [whole, Bool.false_eq_true, false_iff]
    rintro ⟨_, hn⟩
    have := lg_le (x0 :: x1 :: x2 :: x3 :: x4 :: r)
    rw [hn] at this
    simp at this
theorem val_lg (l : List Int) (h : Byt l) (hn : l ≠ []) : (0 ≤ val l ↔ lg l = l.length) ∧ (lg l = l.length → (val l > 65535 ↔ lg l = 4)) := by
  have hw := whole_iff l h
  unfold val
  by_cases hwl : whole l = true
  · rw [if_pos hwl]
    have hl := (hw.1 hwl).2
    obtain ⟨x, t, rfl⟩ : ∃ x t, l = x :: t := by cases l with | nil => exact absurd rfl hn | cons x t => exact ⟨x, t, rfl⟩
    have hr := ru_facts x t (h x (by simp)).1
    have e : ru (x :: t) = num (x :: t) := by
      unfold ru
      rw [if_neg (by rw [hl]; simp), hl, List.take_length]
    rw [e] at hr
    exact ⟨⟨fun _ => hl, fun _ => hr.2.2.2.1⟩, fun _ => hr.2.2.1⟩
  · rw [if_neg hwl]
    have hne : ¬ lg l = l.length := fun c => hwl (hw.2 ⟨hn, c⟩)
    exact ⟨⟨fun c => by omega, fun c => absurd c hne⟩, fun c => absurd c hne⟩
end Go.Proofs.YtaojbcplmdjfnaaDoor.Ev

namespace Go.Proofs.YtaojbcplmdjfnaaDoor.Pr
open Go.RowKit Go.Proofs.YtaojbcplmdjfnaaDoorW.PrintWords Go.Proofs.YtaojbcplmdjfnaaDoorW.PrintLast Go.Proofs.YtaojbcplmdjfnaaDoorW.PrintMore
attribute [local go_sem] max2_int min2_int max_two min_two max_three min_three max_four min_four   -- for this text's walks alone
set_option linter.unusedVariables false
set_option linter.unusedSimpArgs false
mutual
def galleyref05_seam.l0 : Nat → Int → Int → Int → Int → Int → ByteArray → ByteArray → Int → Int → Int → Int → ByteArray → ByteArray → Int → Int → Int → Int → Option (Int × Int × Int × Int)
 | 0, _, _, _, _, _, _, _, _, _, _, _, _, _, _, _, _, _ => none
 | k + 1, x6, x307000, x307001, x307002, x307003, x307004, x307005, x308000, x308001, x308002, x308003, x308004, x308005, x310000, x310001, x310002, x310003 => if x6 ≤ (x307005.size : Int) then (galleyref05_seam.l1 k x6 1 x307000 x307001 x307002 x307003 x307004 x307005 x308000 x308001 x308002 x308003 x308004 x308005 x310000 x310001 x310002 x310003) else (if (x307005.size : Int) > 0 then (if (x308004.size : Int) > 0 then (if 0 ≤ (wrap64 ((x307005.size : Int) - 1)) then (if (wrap64 ((x307005.size : Int) - 1)) < (x307005.size : Int) then (if (bt x307005 (wrap64 ((x307005.size : Int) - 1))) = 13 then (if 0 < (x308004.size : Int) then (if (bt x308004 0) = 10 then (some (x310000, x310001, x310002, 1)) else (some (x310000, x310001, x310002, x310003))) else (none)) else (some (x310000, x310001, x310002, x310003))) else (none)) else (none)) else (some (x310000, x310001, x310002, x310003))) else (some (x310000, x310001, x310002, x310003)))
def galleyref05_seam.l1 : Nat → Int → Int → Int → Int → Int → Int → ByteArray → ByteArray → Int → Int → Int → Int → ByteArray → ByteArray → Int → Int → Int → Int → Option (Int × Int × Int × Int)
 | 0, _, _, _, _, _, _, _, _, _, _, _, _, _, _, _, _, _, _ => none
 | k + 1, x6, x7, x307000, x307001, x307002, x307003, x307004, x307005, x308000, x308001, x308002, x308003, x308004, x308005, x310000, x310001, x310002, x310003 => if x7 ≤ (x308004.size : Int) then (if 0 ≤ (wrap64 ((x307005.size : Int) - x6)) then (if (wrap64 ((x307005.size : Int) - x6)) ≤ (x307005.size : Int) then (if 0 ≤ x7 then (if (x307005.extract ((wrap64 ((x307005.size : Int) - x6)) : Int).toNat x307005.size).size + (x308004.extract 0 (x7 : Int).toNat).size ≤ 9223372036854775807 then (if ((x307005.extract ((wrap64 ((x307005.size : Int) - x6)) : Int).toNat x307005.size) ++ (x308004.extract 0 (x7 : Int).toNat)).size ≤ 9223372036854775807 then ((some (bytesOf ((x307005.extract ((wrap64 ((x307005.size : Int) - x6)) : Int).toNat x307005.size) ++ (x308004.extract 0 (x7 : Int).toNat)) : List Int)).bind fun y310 => ((galleyref02_Long.f k y310 0).bind fun t313 => (if t313 = (wrap64 (x6 + x7)) then ((galleyref02_Of.f k y310 0).bind fun bt314 => ((galleyref05_units.f bt314.1 bt314.2.1 bt314.2.2).bind fun t317 => (galleyref05_seam.l1 k x6 (wrap64 (x7 + 1)) x307000 x307001 x307002 x307003 x307004 x307005 x308000 x308001 x308002 x308003 x308004 x308005 x310000 (wrap64 ((wrap64 (x6 + x7)) - 1)) (wrap64 ((wrap64 (x6 + x7)) - t317)) x310003))) else (galleyref05_seam.l1 k x6 (wrap64 (x7 + 1)) x307000 x307001 x307002 x307003 x307004 x307005 x308000 x308001 x308002 x308003 x308004 x308005 x310000 x310001 x310002 x310003)))) else (none)) else (none)) else (none)) else (none)) else (none)) else (galleyref05_seam.l0 k (wrap64 (x6 + 1)) x307000 x307001 x307002 x307003 x307004 x307005 x308000 x308001 x308002 x308003 x308004 x308005 x310000 x310001 x310002 x310003)
end
def galleyref05_seam.f (k : Nat) (a0_0 : Int) (a0_1 : Int) (a0_2 : Int) (a0_3 : Int) (a0_4 : ByteArray) (a0_5 : ByteArray) (a1_0 : Int) (a1_1 : Int) (a1_2 : Int) (a1_3 : Int) (a1_4 : ByteArray) (a1_5 : ByteArray) : Option (Int × Int × Int × Int) := galleyref05_seam.l0 k 1 a0_0 a0_1 a0_2 a0_3 a0_4 a0_5 a1_0 a1_1 a1_2 a1_3 a1_4 a1_5 0 0 0 0
end Go.Proofs.YtaojbcplmdjfnaaDoor.Pr

namespace Go.Proofs.YtaojbcplmdjfnaaDoor.Pr
open Go.RowKit Go.Proofs.YtaojbcplmdjfnaaDoorW.PrintWords Go.Proofs.YtaojbcplmdjfnaaDoorW.PrintLast Go.Proofs.YtaojbcplmdjfnaaDoorW.PrintMore
attribute [local go_sem] max2_int min2_int max_two min_two max_three min_three max_four min_four   -- for this text's walks alone
set_option linter.unusedVariables false
set_option linter.unusedSimpArgs false
mutual
def galleyref05_Join.j0 : Nat → Bool → Int → Int → Int → Int → ByteArray → ByteArray → Int → Int → Int → Int → ByteArray → ByteArray → Option (Int × Int × Int × Int × ByteArray × ByteArray × Int)
 | 0, _, _, _, _, _, _, _, _, _, _, _, _, _ => none
 | k + 1, x15, x319000, x319001, x319002, x319003, x319004, x319005, x320000, x320001, x320002, x320003, x320004, x320005 => if x15 = true then (some (0, 0, 0, 0, (⟨#[]⟩ : ByteArray), (⟨#[]⟩ : ByteArray), 50)) else (if (wrap64 (x319000 + x320000)) > 268435456 then (some (0, 0, 0, 0, (⟨#[]⟩ : ByteArray), (⟨#[]⟩ : ByteArray), 5)) else ((galleyref05_seam.f k x319000 x319001 x319002 x319003 x319004 x319005 x320000 x320001 x320002 x320003 x320004 x320005).bind fun bt323 => (if (x319004.size : Int) < 3 then (if x319004.size + x320004.size ≤ 9223372036854775807 then ((galleyref05_head.f (x319004 ++ x320004)).bind fun t329 => (galleyref05_Join.j1 k x319000 x319001 x319002 x319003 x319004 x319005 x320000 x320001 x320002 x320003 x320004 x320005 bt323.1 bt323.2.1 bt323.2.2.1 bt323.2.2.2 0 0 0 0 t329 x320005)) else (none)) else (galleyref05_Join.j1 k x319000 x319001 x319002 x319003 x319004 x319005 x320000 x320001 x320002 x320003 x320004 x320005 bt323.1 bt323.2.1 bt323.2.2.1 bt323.2.2.2 0 0 0 0 x319004 x320005))))
def galleyref05_Join.j1 : Nat → Int → Int → Int → Int → ByteArray → ByteArray → Int → Int → Int → Int → ByteArray → ByteArray → Int → Int → Int → Int → Int → Int → Int → Int → ByteArray → ByteArray → Option (Int × Int × Int × Int × ByteArray × ByteArray × Int)
 | 0, _, _, _, _, _, _, _, _, _, _, _, _, _, _, _, _, _, _, _, _, _, _ => none
 | k + 1, x319000, x319001, x319002, x319003, x319004, x319005, x320000, x320001, x320002, x320003, x320004, x320005, x328000, x328001, x328002, x328003, x329000, x329001, x329002, x329003, x329004, x329005 => if (x320005.size : Int) < 3 then (if x319005.size + x320005.size ≤ 9223372036854775807 then ((galleyref05_tail.f (x319005 ++ x320005)).bind fun t330 => ((galleyref05_Valid.f k (wrap64 (x319000 + x320000)) (wrap64 ((wrap64 (x319001 + x320001)) - x328001)) (wrap64 ((wrap64 (x319002 + x320002)) - x328002)) (wrap64 ((wrap64 (x319003 + x320003)) - x328003)) x329004 t330).bind fun t331 => (if t331 = true then (some (wrap64 (x319000 + x320000), wrap64 ((wrap64 (x319001 + x320001)) - x328001), wrap64 ((wrap64 (x319002 + x320002)) - x328002), wrap64 ((wrap64 (x319003 + x320003)) - x328003), x329004, t330, 0)) else (some (0, 0, 0, 0, (⟨#[]⟩ : ByteArray), (⟨#[]⟩ : ByteArray), 50))))) else (none)) else ((galleyref05_Valid.f k (wrap64 (x319000 + x320000)) (wrap64 ((wrap64 (x319001 + x320001)) - x328001)) (wrap64 ((wrap64 (x319002 + x320002)) - x328002)) (wrap64 ((wrap64 (x319003 + x320003)) - x328003)) x329004 x329005).bind fun t332 => (if t332 = true then (some (wrap64 (x319000 + x320000), wrap64 ((wrap64 (x319001 + x320001)) - x328001), wrap64 ((wrap64 (x319002 + x320002)) - x328002), wrap64 ((wrap64 (x319003 + x320003)) - x328003), x329004, x329005, 0)) else (some (0, 0, 0, 0, (⟨#[]⟩ : ByteArray), (⟨#[]⟩ : ByteArray), 50))))
end
def galleyref05_Join.f (k : Nat) (a0_0 : Int) (a0_1 : Int) (a0_2 : Int) (a0_3 : Int) (a0_4 : ByteArray) (a0_5 : ByteArray) (a1_0 : Int) (a1_1 : Int) (a1_2 : Int) (a1_3 : Int) (a1_4 : ByteArray) (a1_5 : ByteArray) : Option (Int × Int × Int × Int × ByteArray × ByteArray × Int) := (galleyref05_Valid.f k a0_0 a0_1 a0_2 a0_3 a0_4 a0_5).bind fun t321 => (if t321 = true then ((galleyref05_Valid.f k a1_0 a1_1 a1_2 a1_3 a1_4 a1_5).bind fun t322 => (galleyref05_Join.j0 k (!t322) a0_0 a0_1 a0_2 a0_3 a0_4 a0_5 a1_0 a1_1 a1_2 a1_3 a1_4 a1_5)) else (galleyref05_Join.j0 k true a0_0 a0_1 a0_2 a0_3 a0_4 a0_5 a1_0 a1_1 a1_2 a1_3 a1_4 a1_5))
end Go.Proofs.YtaojbcplmdjfnaaDoor.Pr

namespace Go.Proofs.YtaojbcplmdjfnaaDoor.Pr
open Go.RowKit Go.Proofs.YtaojbcplmdjfnaaDoorW.PrintWords Go.Proofs.YtaojbcplmdjfnaaDoorW.PrintLast Go.Proofs.YtaojbcplmdjfnaaDoorW.PrintMore
set_option linter.unusedVariables false
set_option linter.unusedSimpArgs false
theorem C_lit (w : World) (e : TypeId) (xs : List Int) (fr : Nat × Nat) (h : xs.length ≤ 9223372036854775807) :
    Kd.C (Kd.int .u8) (w.alloc (.cells (xs.map (Value.int .u8)).toArray e fr)) (some ⟨w.heap.size, 0, none⟩) xs.length xs := by
  refine Kd.C_of_reads (d := (0 : Int)) (h1 := fun _ => rfl) ⟨rfl, h, fun _ => ⟨_, rfl, fun j hj => ?_⟩⟩
  rw [add_plain, cell_of_row _ _ j _ e fr (heap_alloc_new w _)]
  simp [List.getElem?_eq_getElem hj, List.getD_eq_getElem?_getD]
def galleylaw05_fixed.f : Option Bool := some true
set_option maxRecDepth 100000 in
theorem fx1 : weld_Of.f [240, 159] = some (2, 2, 2, 0, ⟨#[240, 159]⟩, ⟨#[240, 159]⟩) := by kernel_rfl
set_option maxRecDepth 100000 in
theorem fx2 : weld_Of.f [152, 128, 13] = some (3, 3, 3, 1, ⟨#[152, 128, 13]⟩, ⟨#[152, 128, 13]⟩) := by kernel_rfl
set_option maxRecDepth 100000 in
theorem fx3 : weld_Join.f 30 2 2 2 0 ⟨#[240, 159]⟩ ⟨#[240, 159]⟩ 3 3 3 1 ⟨#[152, 128, 13]⟩ ⟨#[152, 128, 13]⟩ = some (5, 2, 3, 1, ⟨#[240, 159, 152]⟩, ⟨#[152, 128, 13]⟩, 0) := by kernel_rfl
set_option maxRecDepth 100000 in
theorem fx4 : weld_Seam.f 30 2 2 2 0 ⟨#[240, 159]⟩ ⟨#[240, 159]⟩ 3 3 3 1 ⟨#[152, 128, 13]⟩ ⟨#[152, 128, 13]⟩ = some (0, 3, 2, 0, 0) := by kernel_rfl
set_option maxRecDepth 100000 in
theorem fx5 : weld_Valid.f 30 5 2 3 1 ⟨#[240, 159, 152]⟩ ⟨#[152, 128, 13]⟩ = some true := by kernel_rfl
theorem weld_cells {W : World} {b : Nat} {i1 i2 i3 i4 : Int} {s1 s2 : ByteArray} {t : TypeId} {fr : Nat × Nat} (h : W.heap[b]? = some (.cells #[.int .i64 i1, .int .i64 i2, .int .i64 i3, .int .i64 i4, .string s1, .string s2] t fr)) :
    W.cell? ⟨b, 0, none⟩ = some (.int .i64 i1) ∧ W.cell? ⟨b, 1, none⟩ = some (.int .i64 i2) ∧ W.cell? ⟨b, 2, none⟩ = some (.int .i64 i3) ∧ W.cell? ⟨b, 3, none⟩ = some (.int .i64 i4) ∧ W.cell? ⟨b, 4, none⟩ = some (.string s1) ∧ W.cell? ⟨b, 5, none⟩ = some (.string s2) := by
  refine ⟨?_, ?_, ?_, ?_, ?_, ?_⟩ <;> (rw [cell_of_row _ _ _ _ _ _ h]; rfl)
set_option maxHeartbeats 8000000 in
set_option maxRecDepth 100000 in
theorem galleylaw05_fixed.calls (r : Bool) (w : World) (hG : Glob.Globs w) (h : galleylaw05_fixed.f = some r) :
    Calls Tryd.prog 10 #[] w fun e w' => e = .returned (.bool r) ∧ Below w.heap.size w w' := by
  obtain rfl : true = r := Option.some.inj h
  clear h
  have HG := Lib.hid hG
  clear hG
  have kc := fun (w : World) (C : Array Value) (n c : Nat) => Lib.run_convert_bytes_const (P := Tryd.prog) w 29 5 C n c Tryd.underlying29 Tryd.underlying5
  go_enter Tryd.func10, Tryd.ntmps10
  go_wp2_with fail
  refine (weld_Of.calls _ 2 [240, 159] 2 2 2 0 _ _ _ (Glob.Globs_alloc HG.out _) (C_lit w 5 [240, 159] (2, 3) (by decide)) (by decide) fx1).mono ?_
  rintro e w1 ⟨rfl, hb1⟩
  have B1 : Below w.heap.size w w1 := below_step ((Below.refl _ w).alloc (Nat.le_refl _) _) hb1
  have BB1 := Lib.hid B1
  clear B1 hb1
  go_wp2_with fail
  refine (weld_Of.calls _ 3 [152, 128, 13] 3 3 3 1 _ _ _ (Glob.Globs_alloc (Glob.Globs_below HG.out BB1.out) _) (C_lit w1 5 [152, 128, 13] (3, 4) (by decide)) (by decide) fx2).mono ?_
  rintro e w2 ⟨rfl, hb2⟩
  have B2 : Below w.heap.size w w2 := below_step (BB1.out.alloc BB1.out.size _) hb2
  have BB2 := Lib.hid B2
  clear B2 hb2
  go_wp2_with fail
  refine (weld_Join.calls 30 2 2 2 0 _ _ 3 3 3 1 _ _ 5 2 3 1 _ _ 0 _ ?gj fx3).mono ?_
  case gj => repeat (first | exact Glob.Globs_below HG.out BB2.out | (with_reducible refine Glob.Globs_alloc ?_ _))
  rintro e w3 ⟨rfl, hb3⟩
  have ha := (hb3.block _ (by simp; omega)).trans (blk_alloc (blk_new w2 _) _)
  have hB := (hb3.block _ (by simp)).trans (blk_new (w2.alloc _) _)
  simp only [World.size_alloc] at hB
  have B3 := Lib.hid (below_step ((BB2.out.alloc BB2.out.size _).alloc (Nat.le_trans BB2.out.size (by simp)) _) hb3)
  have hsz : w2.heap.size < w3.heap.size := by have := hb3.size; simp at this; omega
  have hsz1 : w2.heap.size + 1 < w3.heap.size := by have := hb3.size; simp at this; omega
  clear hb3
  have HA := Lib.hid ha
  have HBB := Lib.hid hB
  obtain ⟨a1, a2, a3, a4, a5, a6⟩ := weld_cells ha
  obtain ⟨b1, b2, b3, b4, b5, b6⟩ := weld_cells hB
  clear ha hB
  go_wp2_with fail
  refine (weld_Seam.calls 30 2 2 2 0 _ _ 3 3 3 1 _ _ 0 3 2 0 0 _ ?gj2 fx4).mono ?_
  case gj2 => repeat (first | exact Glob.Globs_below HG.out B3.out | (with_reducible refine Glob.Globs_alloc ?_ _))
  rintro e w4 ⟨rfl, hb4⟩
  have hA4 := (hb4.block _ (by simp; omega)).trans (blk_alloc HA.out _)
  have hC4 := (hb4.block _ (by simp)).trans (blk_new w3 _)
  have B4 := Lib.hid (below_step (B3.out.alloc B3.out.size _) hb4)
  have hsz4 : w3.heap.size < w4.heap.size := by have := hb4.size; simp at this; omega
  have hsz5 : w2.heap.size < w4.heap.size := by omega
  clear hb4 a1 a2 a3 a4 a5 a6 b1 b2 b3 b4 b5 b6
  have HC4 := Lib.hid hC4
  obtain ⟨a1, a2, a3, a4, a5, a6⟩ := weld_cells hA4
  obtain ⟨c1, c2, c3, c4, c5, c6⟩ := weld_cells hC4
  clear hA4 hC4
  go_wp2_with fail
  refine (weld_Valid.calls 30 5 2 3 1 _ _ true _ ?gj3 fx5).mono ?_
  case gj3 => repeat (first | exact Glob.Globs_below HG.out B4.out | (with_reducible refine Glob.Globs_alloc ?_ _))
  rintro e w5 ⟨rfl, hb5⟩
  have B5 := Lib.hid (below_step (B4.out.alloc B4.out.size _) hb5)
  clear hb5
  go_wp2_with fail
  go_ret
  exact ⟨rfl, B5.out⟩
end Go.Proofs.YtaojbcplmdjfnaaDoor.Pr

namespace Go.Proofs.YtaojbcplmdjfnaaDoor.Pr
open Go.RowKit Go.Proofs.YtaojbcplmdjfnaaDoorW.PrintWords Go.Proofs.YtaojbcplmdjfnaaDoorW.PrintLast Go.Proofs.YtaojbcplmdjfnaaDoorW.PrintMore
attribute [local go_sem] max2_int min2_int max_two min_two max_three min_three max_four min_four   -- for this text's walks alone
set_option linter.unusedVariables false
set_option linter.unusedSimpArgs false
attribute [local go_sem high] eqA24 eqA26
def galleyref05_Seam.f (k : Nat) (a0_0 : Int) (a0_1 : Int) (a0_2 : Int) (a0_3 : Int) (a0_4 : ByteArray) (a0_5 : ByteArray) (a1_0 : Int) (a1_1 : Int) (a1_2 : Int) (a1_3 : Int) (a1_4 : ByteArray) (a1_5 : ByteArray) : Option (Int × Int × Int × Int × Int) := (galleyref05_Join.f k a0_0 a0_1 a0_2 a0_3 a0_4 a0_5 a1_0 a1_1 a1_2 a1_3 a1_4 a1_5).bind fun bt336 => (if bt336.2.2.2.2.2.2 = 0 then ((galleyref05_seam.f k a0_0 a0_1 a0_2 a0_3 a0_4 a0_5 a1_0 a1_1 a1_2 a1_3 a1_4 a1_5).bind fun bt344 => (some (bt344.1, bt344.2.1, bt344.2.2.1, bt344.2.2.2, 0))) else (some (0, 0, 0, 0, bt336.2.2.2.2.2.2)))
def galleylaw05_WeldAny.j0 : Nat → Bool → Int → Int → Int → Int → ByteArray → ByteArray → Int → Int → Int → Int → ByteArray → ByteArray → Option (Bool)
 | 0, _, _, _, _, _, _, _, _, _, _, _, _, _ => none
 | k + 1, x26, x349000, x349001, x349002, x349003, x349004, x349005, x350000, x350001, x350002, x350003, x350004, x350005 => if x26 = true then (none) else ((weld_Join.f k x349000 x349001 x349002 x349003 x349004 x349005 x350000 x350001 x350002 x350003 x350004 x350005).bind fun bt355 => ((galleyref05_Join.f k x349000 x349001 x349002 x349003 x349004 x349005 x350000 x350001 x350002 x350003 x350004 x350005).bind fun bt363 => ((weld_Seam.f k x349000 x349001 x349002 x349003 x349004 x349005 x350000 x350001 x350002 x350003 x350004 x350005).bind fun bt371 => ((galleyref05_Seam.f k x349000 x349001 x349002 x349003 x349004 x349005 x350000 x350001 x350002 x350003 x350004 x350005).bind fun bt377 => (if ((!(bt355.1 == bt363.1) || (!(bt355.2.1 == bt363.2.1) || (!(bt355.2.2.1 == bt363.2.2.1) || (!(bt355.2.2.2.1 == bt363.2.2.2.1))))) || (!(bt355.2.2.2.2.1.toList == bt363.2.2.2.2.1.toList) || (!(bt355.2.2.2.2.2.1.toList == bt363.2.2.2.2.2.1.toList)))) = true then (none) else (if bt355.2.2.2.2.2.2 = bt363.2.2.2.2.2.2 then (if (!(bt371.1 == bt377.1) || (!(bt371.2.1 == bt377.2.1) || (!(bt371.2.2.1 == bt377.2.2.1) || (!(bt371.2.2.2.1 == bt377.2.2.2.1))))) = true then (none) else (if bt371.2.2.2.2 = bt377.2.2.2.2 then (if bt355.2.2.2.2.2.2 = 0 then ((weld_Valid.f k bt355.1 bt355.2.1 bt355.2.2.1 bt355.2.2.2.1 bt355.2.2.2.2.1 bt355.2.2.2.2.2.1).bind fun t383 => (if t383 = true then (if bt371.1 = 0 then (if bt371.2.1 ≥ 0 then (if bt371.2.1 ≤ 3 then (if bt371.2.2.1 ≥ 0 then (if bt371.2.2.1 ≤ 2 then (if bt371.2.2.2.1 ≥ 0 then (some (decide (bt371.2.2.2.1 ≤ 1))) else (none)) else (none)) else (none)) else (none)) else (none)) else (none)) else (none))) else (some true)) else (none))) else (none)))))))
def galleylaw05_WeldAny.f (k : Nat) (a0_0 : Int) (a0_1 : Int) (a0_2 : Int) (a0_3 : Int) (a0_4 : ByteArray) (a0_5 : ByteArray) (a1_0 : Int) (a1_1 : Int) (a1_2 : Int) (a1_3 : Int) (a1_4 : ByteArray) (a1_5 : ByteArray) : Option (Bool) := (galleylaw05_fixed.f).bind fun t350 => (if t350 = true then ((weld_Valid.f k a0_0 a0_1 a0_2 a0_3 a0_4 a0_5).bind fun t351 => ((galleyref05_Valid.f k a0_0 a0_1 a0_2 a0_3 a0_4 a0_5).bind fun t352 => (if (t351 != t352) = true then (galleylaw05_WeldAny.j0 k true a0_0 a0_1 a0_2 a0_3 a0_4 a0_5 a1_0 a1_1 a1_2 a1_3 a1_4 a1_5) else ((weld_Valid.f k a1_0 a1_1 a1_2 a1_3 a1_4 a1_5).bind fun t353 => ((galleyref05_Valid.f k a1_0 a1_1 a1_2 a1_3 a1_4 a1_5).bind fun t354 => (galleylaw05_WeldAny.j0 k (t353 != t354) a0_0 a0_1 a0_2 a0_3 a0_4 a0_5 a1_0 a1_1 a1_2 a1_3 a1_4 a1_5)))))) else (none))
end Go.Proofs.YtaojbcplmdjfnaaDoor.Pr

namespace Go.Proofs.YtaojbcplmdjfnaaDoor.PuSm
open Go.RowKit Go.Proofs.YtaojbcplmdjfnaaDoor.Pr Go.Proofs.YtaojbcplmdjfnaaDoor.Math Go.Proofs.YtaojbcplmdjfnaaDoor.Ev Go.Proofs.YtaojbcplmdjfnaaDoor.PuSz Go.Proofs.YtaojbcplmdjfnaaDoor.PuMs Go.Proofs.YtaojbcplmdjfnaaDoorW.PrintWords Go.Proofs.YtaojbcplmdjfnaaDoorW.PrintLast Go.Proofs.YtaojbcplmdjfnaaDoorW.PrintMore
set_option linter.unusedVariables false
set_option linter.unusedSimpArgs false
def uL (n : Nat) : Int := if n = 4 then 2 else 1
theorem uL_range (n : Nat) : 1 ≤ uL n ∧ uL n ≤ 2 := by unfold uL; split <;> omega
def swI (k L : Nat) (p : Int × Int) : Int × Int := if k < L then ((L : Int) - 1, (L : Int) - uL L) else p
theorem seamR_swI (A B : List Int) (k : Nat) (h1 : 1 ≤ k) (h2 : k ≤ A.length) : seamR (A.drop (A.length - k)) B = swI k (lg (A.drop (A.length - k) ++ B)) (seamR (A.drop (A.length - (k - 1))) B) := by
  have hd : A.drop (A.length - k) = A[A.length - k] :: A.drop (A.length - (k - 1)) := by
    rw [List.drop_eq_getElem_cons (show A.length - k < A.length by omega), show A.length - k + 1 = A.length - (k - 1) by omega]
  rw [hd, seamR]
  unfold swI uL
  have hl : (A.drop (A.length - (k - 1))).length + 1 = k := by rw [List.length_drop]; omega
  rw [hl]
theorem cut_lg (S B : List Int) (hS : 1 ≤ S.length) (j : Nat) (h1 : 1 ≤ j) (h2 : j ≤ B.length) : lg (S ++ B.take j) = S.length + j ↔ lg (S ++ B) = S.length + j := by
  have e : S ++ B = (S ++ B.take j) ++ B.drop j := by rw [List.append_assoc, List.take_append_drop]
  constructor
  · intro h
    rw [e, lg_append _ _ (by omega), h]
  · intro h
    rw [e] at h
    rw [lg_of_append (S ++ B.take j) (B.drop j) (by omega) (by rw [h, List.length_append, List.length_take]; omega), h]
theorem bt_bo (s : ByteArray) (i : Int) (h : i.toNat < s.size) : bt s i = (bytesOf s).getD i.toNat (-1) := by
  rw [← rd_bytesOf, rd_getD _ _ (by rw [bytesOf_length]; exact h)]
def cutS (A B : List Int) (k j : Nat) : List Int := A.drop (A.length - k) ++ B.take j
theorem cutS_len (A B : List Int) (k j : Nat) (h : k ≤ A.length) (h' : j ≤ B.length) : (cutS A B k j).length = k + j := by unfold cutS; rw [List.length_append, List.length_drop, List.length_take]; omega
theorem cutS_byt {A B : List Int} (hA : Byt A) (hB : Byt B) (k j : Nat) : Byt (cutS A B k j) := (hA.drop _).append (hB.take _)
theorem cutS_lg (A B : List Int) (k j : Nat) (h1 : 1 ≤ k) (h2 : k ≤ A.length) (h3 : 1 ≤ j) (h4 : j ≤ B.length) : lg (cutS A B k j) = k + j ↔ lg (A.drop (A.length - k) ++ B) = k + j := by
  have e : (A.drop (A.length - k)).length = k := by rw [List.length_drop]; omega
  have := cut_lg (A.drop (A.length - k)) B (by omega) j h3 h4
  rw [e] at this
  exact this
theorem cutS_ba (s t : ByteArray) (k j : Nat) (h : k ≤ s.size) : bytesOf (s.extract (((s.size - k : Nat) : Int)).toNat s.size ++ t.extract 0 ((j : Int)).toNat) = cutS (bytesOf s) (bytesOf t) k j := by
  rw [bo_append, Int.toNat_natCast, Int.toNat_natCast, ex_tail, bo_extract, List.drop_zero, Nat.sub_zero, bytesOf_length s |>.symm]
  rfl
section
variable (a0 a1 a2 a3 b0 b1 b2 b3 : Int) (aH aT bH bT : ByteArray)
theorem w_l1_next (k kk j : Nat) (z1 z2 : Int) (h1 : 1 ≤ kk) (h2 : kk ≤ aT.size) (h3 : 1 ≤ j) (h4 : j ≤ bH.size) (hs : aT.size ≤ 3) (ht : bH.size ≤ 3) :
    weld_seam.l1 (k + 10) kk j a0 a1 a2 a3 aH aT b0 b1 b2 b3 bH bT 0 z1 z2 0 =
      (if lg ((bytesOf aT).drop (aT.size - kk) ++ bytesOf bH) = kk + j then weld_seam.l1 (k + 9) kk ((j + 1 : Nat) : Int) a0 a1 a2 a3 aH aT b0 b1 b2 b3 bH bT 0 ((kk + j : Nat) - 1) ((kk + j : Nat) - uL (kk + j)) 0
       else weld_seam.l1 (k + 9) kk ((j + 1 : Nat) : Int) a0 a1 a2 a3 aH aT b0 b1 b2 b3 bH bT 0 z1 z2 0) := by
  have hB := bo_byt bH
  have hA := bo_byt aT
  have hl := cutS_len (bytesOf aT) (bytesOf bH) kk j (by rw [bytesOf_length]; exact h2) (by rw [bytesOf_length]; exact h4)
  have hne : cutS (bytesOf aT) (bytesOf bH) kk j ≠ [] := fun h => by rw [h] at hl; simp at hl; omega
  have hv := val_lg _ (cutS_byt hA hB kk j) hne
  have hc := cutS_lg (bytesOf aT) (bytesOf bH) kk j h1 (by rw [bytesOf_length]; exact h2) h3 (by rw [bytesOf_length]; exact h4)
  rw [bytesOf_length] at hc
  rw [hl, hc] at hv
  have e1 : wrap64 ((aT.size : Int) - (kk : Int)) = ((aT.size - kk : Nat) : Int) := by rw [w64 (by omega) (by omega)]; omega
  have e2 : wrap64 ((j : Int) + 1) = ((j + 1 : Nat) : Int) := by rw [w64 (by omega) (by omega)]; rfl
  have e3 : wrap64 ((kk : Int) + (j : Int)) = ((kk + j : Nat) : Int) := by rw [w64 (by omega) (by omega)]; omega
  have hcb := cutS_ba aT bH kk j h2
  have hvr := val_range (cutS (bytesOf aT) (bytesOf bH) kk j) (cutS_byt hA hB kk j)
  rw [weld_seam.l1, if_pos (by omega), e1, if_pos (by omega), if_pos (by omega), if_pos (by omega)]
  rw [if_pos (by rw [ByteArray.size_extract, ByteArray.size_extract]; omega), if_pos (by rw [← bytesOf_length, hcb, hl]; omega), hcb, o_Value k _ (cutS_byt hA hB kk j), Option.bind_some, e2, e3]
  by_cases hg : lg ((bytesOf aT).drop (aT.size - kk) ++ bytesOf bH) = kk + j
  · rw [if_pos hg, if_pos (hv.1.2 hg)]
    have hu : weld_units.f (val (cutS (bytesOf aT) (bytesOf bH) kk j)) = some (uL (kk + j)) := by
      unfold weld_units.f uL
      have h5 := hv.2 hg
      rw [hc.2 hg] at h5
      by_cases h6 : kk + j = 4
      · rw [if_pos (h5.2 h6), if_pos h6]
      · rw [if_neg (fun c => h6 (h5.1 c)), if_neg h6]
    have hur := uL_range (kk + j)
    rw [hu, Option.bind_some, w64 (n := ((kk + j : Nat) : Int) - 1) (by omega) (by omega), w64 (n := ((kk + j : Nat) : Int) - uL (kk + j)) (by omega) (by omega)]
  · rw [if_neg hg, if_neg (fun c => hg (hv.1.1 c))]
theorem w_l1_end (k kk j : Nat) (z1 z2 : Int) (h1 : kk ≤ 3) (h : bH.size < j) : weld_seam.l1 (k + 1) kk j a0 a1 a2 a3 aH aT b0 b1 b2 b3 bH bT 0 z1 z2 0 = weld_seam.l0 k ((kk + 1 : Nat) : Int) a0 a1 a2 a3 aH aT b0 b1 b2 b3 bH bT 0 z1 z2 0 := by
  rw [weld_seam.l1, if_neg (by omega), w64 (by omega) (by omega)]
  rfl
theorem w_l1 (kk : Nat) (h1 : 1 ≤ kk) (h2 : kk ≤ aT.size) (hs : aT.size ≤ 3) (ht : bH.size ≤ 3) (p : Int × Int) (L : Nat) (hL : lg ((bytesOf aT).drop (aT.size - kk) ++ bytesOf bH) = L) (d : Nat) :
    ∀ (k j : Nat) (z : Int × Int), 1 ≤ j → j + d = bH.size + 1 → z = (if kk < L ∧ L - kk < j then ((L : Int) - 1, (L : Int) - uL L) else p) →
      weld_seam.l1 (k + 10 + d) kk j a0 a1 a2 a3 aH aT b0 b1 b2 b3 bH bT 0 z.1 z.2 0 = weld_seam.l0 (k + 9) ((kk + 1 : Nat) : Int) a0 a1 a2 a3 aH aT b0 b1 b2 b3 bH bT 0 (swI kk L p).1 (swI kk L p).2 0 := by
  have hll : L ≤ kk + bH.size := by
    have := lg_len ((bytesOf aT).drop (aT.size - kk) ++ bytesOf bH)
    rw [hL, List.length_append, List.length_drop, bytesOf_length, bytesOf_length] at this
    omega
  induction d with
  | zero =>
    intro k j z hj hd hz
    rw [show k + 10 + 0 = (k + 9) + 1 from rfl, w_l1_end a0 a1 a2 a3 b0 b1 b2 b3 aH aT bH bT (k + 9) kk j z.1 z.2 (by omega) (by omega)]
    have : z = swI kk L p := by
      rw [hz]
      unfold swI
      by_cases h : kk < L
      · rw [if_pos ⟨h, by omega⟩, if_pos h]
      · rw [if_neg (fun c => h c.1), if_neg h]
    rw [this]
  | succ d ih =>
    intro k j z hj hd hz
    have hn := w_l1_next a0 a1 a2 a3 b0 b1 b2 b3 aH aT bH bT (k + d + 1) kk j z.1 z.2 h1 h2 hj (by omega) hs ht
    rw [show k + 10 + (d + 1) = k + d + 1 + 10 by omega, hn, hL]
    by_cases hg : L = kk + j
    · rw [if_pos hg, ← hg]
      have := ih k (j + 1) ((L : Int) - 1, (L : Int) - uL L) (by omega) (by omega) (by rw [if_pos ⟨by omega, by omega⟩])
      rw [show k + d + 1 + 9 = k + 10 + d by omega]
      exact this
    · rw [if_neg hg]
      have := ih k (j + 1) z (by omega) (by omega) (by
        rw [hz]
        by_cases h : kk < L ∧ L - kk < j
        · rw [if_pos h, if_pos ⟨h.1, by omega⟩]
        · rw [if_neg h, if_neg (fun c => h ⟨c.1, by omega⟩)])
      rw [show k + d + 1 + 9 = k + 10 + d by omega]
      exact this
theorem w_l0_end (k kk : Nat) (z1 z2 : Int) (h : aT.size < kk) (hs : aT.size ≤ 3) (ht : bH.size ≤ 3) : weld_seam.l0 (k + 1) kk a0 a1 a2 a3 aH aT b0 b1 b2 b3 bH bT 0 z1 z2 0 = some (0, z1, z2, seamE (bytesOf aT) (bytesOf bH)) := by
  rw [weld_seam.l0, if_neg (by omega)]
  unfold weld_tailIs.f seamE
  rw [bytesOf_length]
  by_cases ha : (aT.size : Int) > 0
  · have e : wrap64 ((aT.size : Int) - 1) = ((aT.size - 1 : Nat) : Int) := by rw [w64 (by omega) (by omega)]; omega
    rw [if_pos ha, e, if_pos (by omega), if_pos (by omega), Option.bind_some, bt_bo aT _ (by simp; omega)]
    simp only [Int.toNat_natCast, beq_iff_eq]
    by_cases h13 : (bytesOf aT).getD (aT.size - 1) (-1) = 13
    · rw [if_pos h13]
      by_cases hb : (bH.size : Int) > 0
      · rw [if_pos hb, if_pos (by omega), bt_bo bH _ (by simp; omega)]
        simp only [Int.toNat_zero]
        by_cases h10 : (bytesOf bH).getD 0 (-1) = 10
        · rw [if_pos h10, if_pos ⟨h13, h10⟩]
        · rw [if_neg h10, if_neg (fun c => h10 c.2)]
      · rw [if_neg hb, if_neg (fun c => by rw [getD_m1 _ 0 (by rw [bytesOf_length]; omega)] at c; omega)]
    · rw [if_neg h13, if_neg (fun c => h13 c.1)]
  · rw [if_neg ha, Option.bind_some, if_neg (by decide), if_neg (fun c => by rw [getD_m1 _ _ (by rw [bytesOf_length]; omega)] at c; omega)]
theorem w_l0 (hs : aT.size ≤ 3) (ht : bH.size ≤ 3) (d : Nat) : ∀ (k kk : Nat) (z : Int × Int), 1 ≤ kk → kk + d = aT.size + 1 → z = seamR ((bytesOf aT).drop (aT.size - (kk - 1))) (bytesOf bH) →
    weld_seam.l0 (k + 20 + 20 * d) kk a0 a1 a2 a3 aH aT b0 b1 b2 b3 bH bT 0 z.1 z.2 0 = some (0, (seamR (bytesOf aT) (bytesOf bH)).1, (seamR (bytesOf aT) (bytesOf bH)).2, seamE (bytesOf aT) (bytesOf bH)) := by
  induction d with
  | zero =>
    intro k kk z hk hd hz
    rw [show k + 20 + 20 * 0 = (k + 19) + 1 by omega, w_l0_end a0 a1 a2 a3 b0 b1 b2 b3 aH aT bH bT _ kk z.1 z.2 (by omega) hs ht, hz, show aT.size - (kk - 1) = 0 by omega, List.drop_zero]
  | succ d ih =>
    intro k kk z hk hd hz
    have hsw := seamR_swI (bytesOf aT) (bytesOf bH) kk hk (by rw [bytesOf_length]; omega)
    rw [bytesOf_length, ← hz] at hsw
    have h1 := w_l1 a0 a1 a2 a3 b0 b1 b2 b3 aH aT bH bT kk hk (by omega) hs ht z _ rfl bH.size (k + 20 + 20 * d + 9 - bH.size) 1 z (by omega) (by omega) (by rw [if_neg (by omega)])
    have h2 := ih (k + 18 - bH.size) (kk + 1) _ (by omega) (by omega) hsw.symm
    rw [show k + 20 + 20 * (d + 1) = (k + 20 + 20 * d + 9 - bH.size + 10 + bH.size) + 1 by omega, weld_seam.l0, if_pos (by omega)]
    rw [show (1 : Int) = ((1 : Nat) : Int) from rfl, h1, show k + 20 + 20 * d + 9 - bH.size + 9 = k + 18 - bH.size + 20 + 20 * d by omega]
    exact h2
theorem wSeam_eq (k : Nat) (hs : aT.size ≤ 3) (ht : bH.size ≤ 3) (hk : 80 ≤ k) : weld_seam.f k a0 a1 a2 a3 aH aT b0 b1 b2 b3 bH bT = some (0, (seamR (bytesOf aT) (bytesOf bH)).1, (seamR (bytesOf aT) (bytesOf bH)).2, seamE (bytesOf aT) (bytesOf bH)) := by
  unfold weld_seam.f
  have h := w_l0 a0 a1 a2 a3 b0 b1 b2 b3 aH aT bH bT hs ht aT.size (k - 20 - 20 * aT.size) 1 (0, 0) (by omega) (by omega) (by rw [Nat.sub_self, Nat.sub_zero, List.drop_of_length_le (by rw [bytesOf_length]; omega)]; rfl)
  rw [show k - 20 - 20 * aT.size + 20 + 20 * aT.size = k by omega] at h
  exact h
end
end Go.Proofs.YtaojbcplmdjfnaaDoor.PuSm

namespace Go.Proofs.YtaojbcplmdjfnaaDoor.PuJn
open Go.RowKit Go.Proofs.YtaojbcplmdjfnaaDoor.Pr Go.Proofs.YtaojbcplmdjfnaaDoor.Math Go.Proofs.YtaojbcplmdjfnaaDoor.Ev Go.Proofs.YtaojbcplmdjfnaaDoor.PuSz Go.Proofs.YtaojbcplmdjfnaaDoor.PuMs Go.Proofs.YtaojbcplmdjfnaaDoor.PuSm Go.Proofs.YtaojbcplmdjfnaaDoorW.PrintWords Go.Proofs.YtaojbcplmdjfnaaDoorW.PrintLast Go.Proofs.YtaojbcplmdjfnaaDoorW.PrintMore
set_option linter.unusedVariables false
set_option linter.unusedSimpArgs false
def R64 (x : Int) : Prop := -9223372036854775808 ≤ x ∧ x ≤ 9223372036854775807
def vM (a : Ms) : Bool := vldB a.1 a.2.1 a.2.2.1 a.2.2.2.1 (bytesOf a.2.2.2.2.1) (bytesOf a.2.2.2.2.2)
theorem vld_range {n r u e : Int} {H T : List Int} (h : vldB n r u e H T = true) : (0 ≤ n ∧ n ≤ 268435456) ∧ (0 ≤ r ∧ r ≤ n) ∧ (0 ≤ u ∧ u ≤ 2 * n) ∧ (0 ≤ e ∧ e ≤ n) ∧ (H.length : Int) = min 3 n ∧ (T.length : Int) = min 3 n := by
  by_cases hc : n < 0 ∨ n > 268435456 ∨ (H.length : Int) ≠ min 3 n ∨ (T.length : Int) ≠ min 3 n
  · unfold vldB at h; rw [if_pos hc] at h; cases h
  · have hn : 0 ≤ n ∧ n ≤ 268435456 := by omega
    have hh : (H.length : Int) = min 3 n := by omega
    have ht : (T.length : Int) = min 3 n := by omega
    rw [vldB_in n r u e H T hn hh ht] at h
    refine ⟨hn, ?_⟩
    by_cases h6 : n ≤ 6
    · rw [if_pos h6, Bool.and_eq_true, decide_eq_true_eq, decide_eq_true_eq] at h
      obtain ⟨h1, h2, h3, h4⟩ := h
      have hs := ends_six n.toNat (by omega) H T (by omega) (by omega) h1
      generalize H ++ T.drop (H.length + T.length - n.toNat) = B at *
      have q1 := rn_bounds' B
      have q2 := en_bounds' B 0
      omega
    · rw [if_neg h6, decide_eq_true_eq] at h
      omega
def jnM (a b : Ms) : Ms :=
  (a.1 + b.1, a.2.1 + b.2.1 - (seamR (bytesOf a.2.2.2.2.2) (bytesOf b.2.2.2.2.1)).1, a.2.2.1 + b.2.2.1 - (seamR (bytesOf a.2.2.2.2.2) (bytesOf b.2.2.2.2.1)).2, a.2.2.2.1 + b.2.2.2.1 - seamE (bytesOf a.2.2.2.2.2) (bytesOf b.2.2.2.2.1),
    if a.1 < 3 then strOfNums ((bytesOf a.2.2.2.2.1 ++ bytesOf b.2.2.2.2.1).take 3) else a.2.2.2.2.1,
    if b.1 < 3 then strOfNums ((bytesOf a.2.2.2.2.2 ++ bytesOf b.2.2.2.2.2).drop (a.2.2.2.2.2.size + b.2.2.2.2.2.size - 3)) else b.2.2.2.2.2)
def erM (a b : Ms) : Int := if vM a = true ∧ vM b = true then (if a.1 + b.1 > 268435456 then 5 else if vM (jnM a b) = true then 0 else 50) else 50
def joM (a b : Ms) : Ms := if erM a b = 0 then jnM a b else m0
def smM (a b : Ms) : Int × Int × Int := if erM a b = 0 then ((seamR (bytesOf a.2.2.2.2.2) (bytesOf b.2.2.2.2.1)).1, (seamR (bytesOf a.2.2.2.2.2) (bytesOf b.2.2.2.2.1)).2, seamE (bytesOf a.2.2.2.2.2) (bytesOf b.2.2.2.2.1)) else (0, 0, 0)
theorem er_bad {a b : Ms} (h : ¬ (vM a = true ∧ vM b = true)) : erM a b = 50 := by unfold erM; rw [if_neg h]
theorem er_long {a b : Ms} (h : vM a = true ∧ vM b = true) (h' : a.1 + b.1 > 268435456) : erM a b = 5 := by unfold erM; rw [if_pos h, if_pos h']
theorem er_fine {a b : Ms} (h : vM a = true ∧ vM b = true) (h' : ¬ a.1 + b.1 > 268435456) (h2 : vM (jnM a b) = true) : erM a b = 0 := by unfold erM; rw [if_pos h, if_neg h', if_pos h2]
theorem er_not {a b : Ms} (h : vM a = true ∧ vM b = true) (h' : ¬ a.1 + b.1 > 268435456) (h2 : vM (jnM a b) = false) : erM a b = 50 := by unfold erM; rw [if_pos h, if_neg h', if_neg (by rw [h2]; decide)]
section
variable (a0 a1 a2 a3 b0 b1 b2 b3 : Int) (aH aT bH bT : ByteArray)
theorem sum_eq (p0 p1 p2 p3 q0 q1 q2 q3 t : Int) (ht : t = 1 ∨ t = -1) (h0 : 0 ≤ p0 ∧ p0 ≤ 4294967296) (h1 : 0 ≤ p1 ∧ p1 ≤ 4294967296) (h2 : 0 ≤ p2 ∧ p2 ≤ 4294967296) (h3 : 0 ≤ p3 ∧ p3 ≤ 4294967296)
    (g0 : 0 ≤ q0 ∧ q0 ≤ 4294967296) (g1 : 0 ≤ q1 ∧ q1 ≤ 4294967296) (g2 : 0 ≤ q2 ∧ q2 ≤ 4294967296) (g3 : 0 ≤ q3 ∧ q3 ≤ 4294967296) : weld_sum.f p0 p1 p2 p3 q0 q1 q2 q3 t = some (p0 + t * q0, p1 + t * q1, p2 + t * q2, p3 + t * q3) := by
  unfold weld_sum.f
  rcases ht with rfl | rfl
  · simp only [Int.one_mul]
    rw [w64 (n := q0) (by omega) (by omega), w64 (n := q1) (by omega) (by omega), w64 (n := q2) (by omega) (by omega), w64 (n := q3) (by omega) (by omega), w64 (by omega) (by omega), w64 (by omega) (by omega), w64 (by omega) (by omega), w64 (by omega) (by omega)]
  · simp only [Int.neg_mul, Int.one_mul]
    rw [w64 (n := -q0) (by omega) (by omega), w64 (n := -q1) (by omega) (by omega), w64 (n := -q2) (by omega) (by omega), w64 (n := -q3) (by omega) (by omega), w64 (by omega) (by omega), w64 (by omega) (by omega), w64 (by omega) (by omega), w64 (by omega) (by omega)]
def jT (b0 : Int) (aT bT : ByteArray) : ByteArray := if b0 < 3 then strOfNums ((bytesOf aT ++ bytesOf bT).drop (aT.size + bT.size - 3)) else bT
def jH (a0 : Int) (aH bH : ByteArray) : ByteArray := if a0 < 3 then strOfNums ((bytesOf aH ++ bytesOf bH).take 3) else aH
theorem j1_eq (k : Nat) (r0 r1 r2 r3 s0 s1 s2 s3 : Int) (h : ByteArray) (hr1 : R64 r1) (hr2 : R64 r2) (ha : aT.size ≤ 3) (hb : bT.size ≤ 3) :
    weld_both.j1 (k + 2) a0 a1 a2 a3 aH aT b0 b1 b2 b3 bH bT s0 s1 s2 s3 r0 r1 r2 r3 h bT = some (if vM (r0, r1, r2, r3, h, jT b0 aT bT) = true then (r0, r1, r2, r3, h, jT b0 aT bT, s0, s1, s2, s3, 0) else (0, 0, 0, 0, ⟨#[]⟩, ⟨#[]⟩, 0, 0, 0, 0, 50)) := by
  rw [weld_both.j1]
  unfold jT
  by_cases h3 : b0 < 3
  · rw [if_pos h3, if_pos (by omega), tail_eq _ (by rw [← bytesOf_length, bo_append, List.length_append, bytesOf_length, bytesOf_length]; omega), Option.bind_some, if_pos h3]
    have hsz : (aT ++ bT).size = aT.size + bT.size := by rw [← bytesOf_length, bo_append, List.length_append, bytesOf_length, bytesOf_length]
    rw [bo_append, hsz, weldValid_eq k _ _ _ _ _ _ hr1 hr2, Option.bind_some]
    unfold vM
    dsimp only
    split <;> rfl
  · rw [if_neg h3, if_neg h3, weldValid_eq k _ _ _ _ _ _ hr1 hr2, Option.bind_some]
    unfold vM
    dsimp only
    split <;> rfl
set_option maxHeartbeats 2000000 in
theorem both_eq (k : Nat) (hk : 120 ≤ k) (ha1 : R64 a1) (ha2 : R64 a2) (hb1 : R64 b1) (hb2 : R64 b2) :
    weld_both.f k a0 a1 a2 a3 aH aT b0 b1 b2 b3 bH bT = some ((joM (a0, a1, a2, a3, aH, aT) (b0, b1, b2, b3, bH, bT)).1, (joM (a0, a1, a2, a3, aH, aT) (b0, b1, b2, b3, bH, bT)).2.1, (joM (a0, a1, a2, a3, aH, aT) (b0, b1, b2, b3, bH, bT)).2.2.1, (joM (a0, a1, a2, a3, aH, aT) (b0, b1, b2, b3, bH, bT)).2.2.2.1, (joM (a0, a1, a2, a3, aH, aT) (b0, b1, b2, b3, bH, bT)).2.2.2.2.1, (joM (a0, a1, a2, a3, aH, aT) (b0, b1, b2, b3, bH, bT)).2.2.2.2.2,
      0, (smM (a0, a1, a2, a3, aH, aT) (b0, b1, b2, b3, bH, bT)).1, (smM (a0, a1, a2, a3, aH, aT) (b0, b1, b2, b3, bH, bT)).2.1, (smM (a0, a1, a2, a3, aH, aT) (b0, b1, b2, b3, bH, bT)).2.2, erM (a0, a1, a2, a3, aH, aT) (b0, b1, b2, b3, bH, bT)) := by
  obtain ⟨k, rfl⟩ : ∃ m, k = m + 120 := ⟨k - 120, by omega⟩
  generalize hA : ((a0, a1, a2, a3, aH, aT) : Ms) = A
  generalize hB : ((b0, b1, b2, b3, bH, bT) : Ms) = B
  have vA : vldB a0 a1 a2 a3 (bytesOf aH) (bytesOf aT) = vM A := by rw [← hA]; rfl
  have vB : vldB b0 b1 b2 b3 (bytesOf bH) (bytesOf bT) = vM B := by rw [← hB]; rfl
  have hbad : ∀ x : Bool, x = true → ¬ (vM A = true ∧ vM B = true) → weld_both.j0 (k + 120) x a0 a1 a2 a3 aH aT b0 b1 b2 b3 bH bT = some ((joM A B).1, (joM A B).2.1, (joM A B).2.2.1, (joM A B).2.2.2.1, (joM A B).2.2.2.2.1, (joM A B).2.2.2.2.2, 0, (smM A B).1, (smM A B).2.1, (smM A B).2.2, erM A B) := by
    intro x hx hv
    have he := er_bad hv
    have hj : joM A B = m0 := by unfold joM; rw [he]; rfl
    have hs : smM A B = (0, 0, 0) := by unfold smM; rw [he]; rfl
    rw [hj, hs, he, weld_both.j0, if_pos hx]
    rfl
  unfold weld_both.f
  rw [weldValid_eq (k + 119) a0 a1 a2 a3 aH aT ha1 ha2, vA, Option.bind_some]
  by_cases hva : vM A = true
  · rw [if_pos hva, weldValid_eq (k + 119) b0 b1 b2 b3 bH bT hb1 hb2, vB, Option.bind_some]
    by_cases hvb : vM B = true
    · have rA := vld_range (vA.trans hva)
      have rB := vld_range (vB.trans hvb)
      rw [bytesOf_length, bytesOf_length] at rA rB
      have hAB : A.1 = a0 ∧ B.1 = b0 := by rw [← hA, ← hB]; exact ⟨rfl, rfl⟩
      rw [weld_both.j0, hvb, if_neg (by decide), w64 (n := a0 + b0) (by omega) (by omega)]
      by_cases hlong : a0 + b0 > 268435456
      · have he := er_long ⟨hva, hvb⟩ (show A.1 + B.1 > 268435456 by rw [hAB.1, hAB.2]; exact hlong)
        have hj : joM A B = m0 := by unfold joM; rw [he]; rfl
        have hs : smM A B = (0, 0, 0) := by unfold smM; rw [he]; rfl
        rw [if_pos hlong, hj, hs, he]
        rfl
      · have hnl : ¬ A.1 + B.1 > 268435456 := by rw [hAB.1, hAB.2]; exact hlong
        have sr := seamR_range (bytesOf aT) (bytesOf bH)
        have se := seamE_range (bytesOf aT) (bytesOf bH)
        rw [if_neg hlong, wSeam_eq a0 a1 a2 a3 b0 b1 b2 b3 aH aT bH bT (k + 119) (by omega) (by omega) (by omega), Option.bind_some]
        dsimp only
        rw [sum_eq a0 a1 a2 a3 b0 b1 b2 b3 1 (.inl rfl) (by omega) (by omega) (by omega) (by omega) (by omega) (by omega) (by omega) (by omega), Option.bind_some]
        dsimp only
        have e0 : weld_sum.f (a0 + 1 * b0) (a1 + 1 * b1) (a2 + 1 * b2) (a3 + 1 * b3) 0 (seamR (bytesOf aT) (bytesOf bH)).1 (seamR (bytesOf aT) (bytesOf bH)).2 (seamE (bytesOf aT) (bytesOf bH)) (-1) = some (a0 + b0, a1 + b1 - (seamR (bytesOf aT) (bytesOf bH)).1, a2 + b2 - (seamR (bytesOf aT) (bytesOf bH)).2, a3 + b3 - seamE (bytesOf aT) (bytesOf bH)) := by
          rw [sum_eq _ _ _ _ _ _ _ _ (-1) (.inr rfl) (by omega) (by omega) (by omega) (by omega) (by omega) (by omega) (by omega) (by omega)]
          congr 1
          simp only [Int.one_mul, Int.neg_mul, Int.neg_zero, Int.add_zero, Int.sub_eq_add_neg]
        rw [e0, Option.bind_some]
        dsimp only
        have hj := j1_eq a0 a1 a2 a3 b0 b1 b2 b3 aH aT bH bT (k + 117) (a0 + b0) (a1 + b1 - (seamR (bytesOf aT) (bytesOf bH)).1) (a2 + b2 - (seamR (bytesOf aT) (bytesOf bH)).2) (a3 + b3 - seamE (bytesOf aT) (bytesOf bH)) 0 (seamR (bytesOf aT) (bytesOf bH)).1 (seamR (bytesOf aT) (bytesOf bH)).2 (seamE (bytesOf aT) (bytesOf bH)) (jH a0 aH bH) ⟨by omega, by omega⟩ ⟨by omega, by omega⟩ (by omega) (by omega)
        have hJ : jnM A B = (a0 + b0, a1 + b1 - (seamR (bytesOf aT) (bytesOf bH)).1, a2 + b2 - (seamR (bytesOf aT) (bytesOf bH)).2, a3 + b3 - seamE (bytesOf aT) (bytesOf bH), jH a0 aH bH, jT b0 aT bT) := by rw [← hA, ← hB]; rfl
        rw [← hJ] at hj
        have hgo : weld_both.j1 (k + 119) a0 a1 a2 a3 aH aT b0 b1 b2 b3 bH bT 0 (seamR (bytesOf aT) (bytesOf bH)).1 (seamR (bytesOf aT) (bytesOf bH)).2 (seamE (bytesOf aT) (bytesOf bH)) (a0 + b0) (a1 + b1 - (seamR (bytesOf aT) (bytesOf bH)).1) (a2 + b2 - (seamR (bytesOf aT) (bytesOf bH)).2) (a3 + b3 - seamE (bytesOf aT) (bytesOf bH)) (jH a0 aH bH) bT =
            some ((joM A B).1, (joM A B).2.1, (joM A B).2.2.1, (joM A B).2.2.2.1, (joM A B).2.2.2.2.1, (joM A B).2.2.2.2.2, 0, (smM A B).1, (smM A B).2.1, (smM A B).2.2, erM A B) := by
          rw [hj]
          by_cases hvj : vM (jnM A B) = true
          · have he := er_fine ⟨hva, hvb⟩ hnl hvj
            have hjo : joM A B = jnM A B := by unfold joM; rw [if_pos he]
            have hs : smM A B = ((seamR (bytesOf aT) (bytesOf bH)).1, (seamR (bytesOf aT) (bytesOf bH)).2, seamE (bytesOf aT) (bytesOf bH)) := by unfold smM; rw [if_pos he, ← hA, ← hB]
            rw [if_pos hvj, hjo, hs, he, hJ]
          · have he := er_not ⟨hva, hvb⟩ hnl (by simpa using hvj)
            have hjo : joM A B = m0 := by unfold joM; rw [he]; rfl
            have hs : smM A B = (0, 0, 0) := by unfold smM; rw [he]; rfl
            rw [if_neg hvj, hjo, hs, he]
            rfl
        rw [← hgo]
        by_cases h3 : a0 < 3
        · rw [if_pos h3, if_pos (by omega), head_eq', Option.bind_some, bo_append]
          unfold jH
          rw [if_pos h3]
        · rw [if_neg h3]
          unfold jH
          rw [if_neg h3]
    · rw [Bool.not_eq_true] at hvb
      rw [hvb]
      exact hbad _ rfl (fun c => by rw [hvb] at c; cases c.2)
  · rw [if_neg hva]
    exact hbad _ rfl (fun c => hva c.1)
theorem wJoin_eq (k : Nat) (hk : 120 ≤ k) (ha1 : R64 a1) (ha2 : R64 a2) (hb1 : R64 b1) (hb2 : R64 b2) :
    weld_Join.f k a0 a1 a2 a3 aH aT b0 b1 b2 b3 bH bT = some ((joM (a0, a1, a2, a3, aH, aT) (b0, b1, b2, b3, bH, bT)).1, (joM (a0, a1, a2, a3, aH, aT) (b0, b1, b2, b3, bH, bT)).2.1, (joM (a0, a1, a2, a3, aH, aT) (b0, b1, b2, b3, bH, bT)).2.2.1, (joM (a0, a1, a2, a3, aH, aT) (b0, b1, b2, b3, bH, bT)).2.2.2.1, (joM (a0, a1, a2, a3, aH, aT) (b0, b1, b2, b3, bH, bT)).2.2.2.2.1, (joM (a0, a1, a2, a3, aH, aT) (b0, b1, b2, b3, bH, bT)).2.2.2.2.2, erM (a0, a1, a2, a3, aH, aT) (b0, b1, b2, b3, bH, bT)) := by
  unfold weld_Join.f
  rw [both_eq a0 a1 a2 a3 b0 b1 b2 b3 aH aT bH bT k hk ha1 ha2 hb1 hb2]
  rfl
end
end Go.Proofs.YtaojbcplmdjfnaaDoor.PuJn

namespace Go.Proofs.YtaojbcplmdjfnaaDoor.PuOf
open Go.RowKit Go.Proofs.YtaojbcplmdjfnaaDoor.Pr Go.Proofs.YtaojbcplmdjfnaaDoor.Math Go.Proofs.YtaojbcplmdjfnaaDoor.Ev Go.Proofs.YtaojbcplmdjfnaaDoor.PuSz Go.Proofs.YtaojbcplmdjfnaaDoor.PuMs Go.Proofs.YtaojbcplmdjfnaaDoor.PuSm Go.Proofs.YtaojbcplmdjfnaaDoor.PuJn Go.Proofs.YtaojbcplmdjfnaaDoorW.PrintWords Go.Proofs.YtaojbcplmdjfnaaDoorW.PrintLast Go.Proofs.YtaojbcplmdjfnaaDoorW.PrintMore
set_option linter.unusedVariables false
set_option linter.unusedSimpArgs false
theorem jn_of (a b : List Int) (ha : Byt a) (hb : Byt b) : jnM (mOf a) (mOf b) = mOf (a ++ b) := by
  have rf := rf_append a b
  have es := en_seam a b
  have e1 : seamR (a.drop (a.length - 3)) (b.take 3) = seamR a b := by rw [← seamR_last, ← seamR_take]
  have e2 : seamE (a.drop (a.length - 3)) (b.take 3) = seamE a b := (seamE_last a b).symm
  have hd : (if (a.length : Int) < 3 then strOfNums ((a.take 3 ++ b.take 3).take 3) else strOfNums (a.take 3)) = strOfNums ((a ++ b).take 3) := by
    by_cases h : (a.length : Int) < 3
    · rw [if_pos h, List.take_of_length_le (show a.length ≤ 3 by omega), List.take_append, List.take_append, List.take_take, show min (3 - a.length) 3 = 3 - a.length by omega]
    · rw [if_neg h, List.take_append_of_le_length (by omega)]
  have tl : (if (b.length : Int) < 3 then strOfNums ((a.drop (a.length - 3) ++ b.drop (b.length - 3)).drop ((a.drop (a.length - 3)).length + (b.drop (b.length - 3)).length - 3)) else strOfNums (b.drop (b.length - 3))) = strOfNums ((a ++ b).drop ((a ++ b).length - 3)) := by
    rw [List.length_append]
    by_cases h : (b.length : Int) < 3
    · rw [if_pos h, show b.length - 3 = 0 by omega, List.drop_zero]
      congr 1
      have e : a ++ b = a.take (a.length - 3) ++ (a.drop (a.length - 3) ++ b) := by rw [← List.append_assoc, List.take_append_drop]
      rw [e, List.drop_append (l₁ := a.take (a.length - 3)), List.drop_of_length_le (l := a.take (a.length - 3)) (by rw [List.length_take]; omega), List.nil_append, List.length_take, List.length_drop]
      congr 1
      omega
    · rw [if_neg h, show a.length + b.length - 3 = a.length + (b.length - 3) by omega, ← List.drop_drop, List.drop_left]
  unfold jnM mOf
  dsimp only
  rw [bo_str _ (ha.drop _), bo_str _ (ha.take 3), bo_str _ (hb.take 3), bo_str _ (hb.drop _), sz_str, sz_str, e1, e2, hd, tl, List.length_append, es, rf.2, rf.1, Int.natCast_add]
theorem vM_of (a : List Int) (ha : Byt a) (hl : a.length ≤ 268435456) : vM (mOf a) = true := by
  unfold vM mOf
  dsimp only
  rw [bo_str _ (ha.take 3), bo_str _ (ha.drop _)]
  exact vld_of a ha hl
theorem er_of (a b : List Int) (ha : Byt a) (hb : Byt b) (hl : a.length + b.length ≤ 268435456) : erM (mOf a) (mOf b) = 0 :=
  er_fine ⟨vM_of a ha (by omega), vM_of b hb (by omega)⟩ (by show ¬ (a.length : Int) + (b.length : Int) > 268435456; omega) (by rw [jn_of a b ha hb]; exact vM_of _ (ha.append hb) (by rw [List.length_append]; omega))
theorem jo_of (a b : List Int) (ha : Byt a) (hb : Byt b) (hl : a.length + b.length ≤ 268435456) : joM (mOf a) (mOf b) = mOf (a ++ b) := by
  unfold joM; rw [if_pos (er_of a b ha hb hl), jn_of a b ha hb]
theorem r64_of (a : List Int) (hl : a.length ≤ 4294967296) : R64 (mOf a).2.1 ∧ R64 (mOf a).2.2.1 := by
  have := rn_bounds' a
  unfold R64 mOf
  dsimp only
  omega
theorem join_of (k : Nat) (hk : 120 ≤ k) (a b : List Int) (ha : Byt a) (hb : Byt b) (hl : a.length + b.length ≤ 268435456) :
    weld_Join.f k (mOf a).1 (mOf a).2.1 (mOf a).2.2.1 (mOf a).2.2.2.1 (mOf a).2.2.2.2.1 (mOf a).2.2.2.2.2 (mOf b).1 (mOf b).2.1 (mOf b).2.2.1 (mOf b).2.2.2.1 (mOf b).2.2.2.2.1 (mOf b).2.2.2.2.2 =
      some ((mOf (a ++ b)).1, (mOf (a ++ b)).2.1, (mOf (a ++ b)).2.2.1, (mOf (a ++ b)).2.2.2.1, (mOf (a ++ b)).2.2.2.2.1, (mOf (a ++ b)).2.2.2.2.2, 0) := by
  have ra := r64_of a (by omega)
  have rb := r64_of b (by omega)
  rw [wJoin_eq _ _ _ _ _ _ _ _ _ _ _ _ k hk ra.1 ra.2 rb.1 rb.2]
  have e : ∀ x : List Int, ((mOf x).1, (mOf x).2.1, (mOf x).2.2.1, (mOf x).2.2.2.1, (mOf x).2.2.2.2.1, (mOf x).2.2.2.2.2) = mOf x := fun _ => rfl
  rw [e a, e b, jo_of a b ha hb hl, er_of a b ha hb hl]
end Go.Proofs.YtaojbcplmdjfnaaDoor.PuOf

namespace Go.Proofs.YtaojbcplmdjfnaaDoor.Pr
open Go.RowKit Go.Proofs.YtaojbcplmdjfnaaDoorW.PrintWords Go.Proofs.YtaojbcplmdjfnaaDoorW.PrintLast Go.Proofs.YtaojbcplmdjfnaaDoorW.PrintMore
attribute [local go_sem] max2_int min2_int max_two min_two max_three min_three max_four min_four   -- for this text's walks alone
set_option linter.unusedVariables false
set_option linter.unusedSimpArgs false
def weld_Sum.l0 : Nat → List (S26) → Int → Int → Int → Int → Int → Int → ByteArray → ByteArray → Option (Int × Int × Int × Int × ByteArray × ByteArray × Int)
 | 0, _, _, _, _, _, _, _, _, _ => none
 | k + 1, x9, x10, x11, x519000, x519001, x519002, x519003, x519004, x519005 => if x11 < x10 then (if 0 ≤ x11 then (if x11 < (x9.length : Int) then ((weld_Join.f k x519000 x519001 x519002 x519003 x519004 x519005 ((rd_T26 x9 x11).f0.f0) ((rd_T26 x9 x11).f0.f1) ((rd_T26 x9 x11).f0.f2) ((rd_T26 x9 x11).f0.f3) ((rd_T26 x9 x11).f1) ((rd_T26 x9 x11).f2)).bind fun bt521 => (if bt521.2.2.2.2.2.2 = 0 then (weld_Sum.l0 k x9 x10 (wrap64 (x11 + 1)) bt521.1 bt521.2.1 bt521.2.2.1 bt521.2.2.2.1 bt521.2.2.2.2.1 bt521.2.2.2.2.2.1) else (some (0, 0, 0, 0, (⟨#[]⟩ : ByteArray), (⟨#[]⟩ : ByteArray), bt521.2.2.2.2.2.2)))) else (none)) else (none)) else (some (x519000, x519001, x519002, x519003, x519004, x519005, 0))
def weld_Sum.f (k : Nat) (l0 : List (S26)) : Option (Int × Int × Int × Int × ByteArray × ByteArray × Int) := weld_Sum.l0 k l0 (l0.length : Int) 0 0 0 0 0 (⟨#[]⟩ : ByteArray) (⟨#[]⟩ : ByteArray)
set_option maxHeartbeats 8000000 in
set_option maxRecDepth 100000 in
theorem weld_Sum.calls (k : Nat) (A0 : Option Addr) (c0 : Nat) (l0 : List (S26)) (r1 : Int) (r2 : Int) (r3 : Int) (r4 : Int) (r5 : ByteArray) (r6 : ByteArray) (r7 : Int) (w : World) (hG : Glob.Globs w) (hr0 : Kd.C k26 w A0 l0.length l0) (hc0 : l0.length ≤ c0) (h : weld_Sum.f k l0 = some (r1, r2, r3, r4, r5, r6, r7)) :
  Calls Tryd.prog 21 #[.slice A0 l0.length c0] w fun e w' => e = .returned (.tuple #[.agg #[.int .i64 r1, .int .i64 r2, .int .i64 r3, .int .i64 r4, .string r5, .string r6], .int .i64 r7]) ∧ Below w.heap.size w w' := by
 have hu26 := Tryd.underlying26
 have HG := Aside0.mk hG
 clear hG
 have HR0 := Aside0.mk hr0
 have HC0 := Aside0.mk hc0
 clear hr0 hc0
 have HB := Aside0.mk (Below.refl w.heap.size w)
 have H : (weld_Sum.l0 k l0 (l0.length : Int) 0 0 0 0 0 (⟨#[]⟩ : ByteArray) (⟨#[]⟩ : ByteArray)) = some (r1, r2, r3, r4, r5, r6, r7) := h
 clear h
 have H' := Aside0.mk H
 clear H
 go_enter Tryd.func21, Tryd.ntmps21
 go_wp2_with (first | ((with_reducible refine gate_dst (N := 2) rfl ?_); refine box_event ?hg (N := 2) ?hd (cs := #[.int .i64 0, .int .i64 0, .int .i64 0, .int .i64 0, .string (⟨#[]⟩ : ByteArray), .string (⟨#[]⟩ : ByteArray)]) (t := 26) ?hr ?_; (case hd => rfl); (case hg => rfl); (case hr => first | (go_simp; done) | (go_simp; rfl)); intro gb517 hg w2 hbox hb; have n0_ := Aside0.mk (below_step (by repeat (first | (with_reducible first | exact HB.out | apply below_alloc | apply pw_below_drewN | apply below_drew1) | exact HB.out)) hb); have n1_ := Aside0.mk (hbox); have n2_ := Aside0.mk ((by rw [hg]; exact (below_size (by repeat (first | (with_reducible first | exact HB.out | apply below_alloc | apply pw_below_drewN | apply below_drew1) | exact HB.out))) : w.heap.size ≤ gb517)); have n3_ := Aside0.mk ((by rw [hg]; exact (below_size (by repeat (first | (with_reducible first | exact HB.out | apply below_alloc | apply pw_below_drewN | apply below_drew1) | exact HB.out))) : w.heap.size ≤ gb517)); clear HB; have HB := n0_; have BK517 := n1_; have GW517 := n2_; have GE517 := n3_; clear n0_ n1_ n2_ n3_; clear hb hbox hg) | ((with_reducible refine gate_dst (N := 4) rfl ?_); refine box_event ?hg (N := 4) ?hd (cs := #[.int .i64 0, .int .i64 0, .int .i64 0, .int .i64 0, .string (⟨#[]⟩ : ByteArray), .string (⟨#[]⟩ : ByteArray)]) (t := 26) ?hr ?_; (case hd => rfl); (case hg => rfl); (case hr => first | (go_simp; done) | (go_simp; rfl)); intro gb518 hg w3 hbox hb; have n0_ := Aside0.mk (blk_below (g := gb517) (o := .cells #[.int .i64 0, .int .i64 0, .int .i64 0, .int .i64 0, .string (⟨#[]⟩ : ByteArray), .string (⟨#[]⟩ : ByteArray)] 26 (0, 0)) (by (with_reducible repeat (first | refine blk_drewN ?_ _ | refine blk_drew ?_ | refine blk_alloc ?_ _)); exact BK517.out) hb); have n1_ := Aside0.mk (below_step (by repeat (first | (with_reducible first | exact HB.out | apply below_alloc | apply pw_below_drewN | apply below_drew1 | refine below_set ?_ GE517.out) | exact HB.out)) hb); have n2_ := Aside0.mk (hbox); have n3_ := Aside0.mk ((by rw [hg]; exact (below_size (by repeat (first | (with_reducible first | exact HB.out | apply below_alloc | apply pw_below_drewN | apply below_drew1 | refine below_set ?_ GE517.out) | exact HB.out))) : w.heap.size ≤ gb518)); have n4_ := Aside0.mk ((by rw [hg]; exact (below_size (by repeat (first | (with_reducible first | exact HB.out | apply below_alloc | apply pw_below_drewN | apply below_drew1 | refine below_set ?_ GE517.out) | exact HB.out))) : w.heap.size ≤ gb518)); have n5_ := Aside0.mk ((by rw [hg]; exact Nat.ne_of_lt (blk_lt (g := gb517) (o := .cells #[.int .i64 0, .int .i64 0, .int .i64 0, .int .i64 0, .string (⟨#[]⟩ : ByteArray), .string (⟨#[]⟩ : ByteArray)] 26 (0, 0)) (by (with_reducible repeat (first | refine blk_drewN ?_ _ | refine blk_drew ?_ | refine blk_alloc ?_ _)); exact BK517.out)) : gb517 ≠ gb518)); have n6_ := Aside0.mk ((by rw [hg]; exact Nat.ne_of_gt (blk_lt (g := gb517) (o := .cells #[.int .i64 0, .int .i64 0, .int .i64 0, .int .i64 0, .string (⟨#[]⟩ : ByteArray), .string (⟨#[]⟩ : ByteArray)] 26 (0, 0)) (by (with_reducible repeat (first | refine blk_drewN ?_ _ | refine blk_drew ?_ | refine blk_alloc ?_ _)); exact BK517.out)) : gb518 ≠ gb517)); clear BK517; clear HB; have BK517 := n0_; have HB := n1_; have BK518 := n2_; have GW518 := n3_; have GE518 := n4_; have NB517_518 := n5_; have NB518_517 := n6_; clear n0_ n1_ n2_ n3_ n4_ n5_ n6_; clear hb hbox hg))
 go_loopg [11] k (fun kq v11 w' => ∃ (x11_1 : Int) (x518000_1 : Int) (x518001_1 : Int) (x518002_1 : Int) (x518003_1 : Int) (x518004_1 : ByteArray) (x518005_1 : ByteArray) (x519000_1 : Int) (x519001_1 : Int) (x519002_1 : Int) (x519003_1 : Int) (x519004_1 : ByteArray) (x519005_1 : ByteArray), v11 = .int .i64 x11_1 ∧ Aside0 (weld_Sum.l0 kq l0 (l0.length : Int) x11_1 x519000_1 x519001_1 x519002_1 x519003_1 x519004_1 x519005_1 = some (r1, r2, r3, r4, r5, r6, r7)) ∧ Aside0 (kq ≤ k) ∧ Aside0 (w'.heap[gb517]? = some (.cells #[.int .i64 x518000_1, .int .i64 x518001_1, .int .i64 x518002_1, .int .i64 x518003_1, .string x518004_1, .string x518005_1] 26 (0, 0))) ∧ Aside0 (w'.heap[gb518]? = some (.cells #[.int .i64 x519000_1, .int .i64 x519001_1, .int .i64 x519002_1, .int .i64 x519003_1, .string x519004_1, .string x519005_1] 26 (0, 0))) ∧ Aside0 (Below w.heap.size w w'))
 case atStart => exact ⟨(0), (0), (0), (0), (0), ((⟨#[]⟩ : ByteArray)), ((⟨#[]⟩ : ByteArray)), (0), (0), (0), (0), ((⟨#[]⟩ : ByteArray)), ((⟨#[]⟩ : ByteArray)), (by first | rfl | (simp; done) | (simp [*]; done)), H', ⟨Nat.le_refl _⟩, ⟨by (with_reducible repeat (first | refine blk_drewN ?_ _ | refine blk_drew ?_ | refine blk_alloc ?_ _)); exact BK517.out⟩, ⟨by (with_reducible repeat (first | refine blk_drewN ?_ _ | refine blk_drew ?_ | refine blk_alloc ?_ _)); exact BK518.out⟩, ⟨by repeat (first | (with_reducible first | exact HB.out | apply below_alloc | apply pw_below_drewN | apply below_drew1 | refine below_set ?_ GE517.out | refine below_set ?_ GE518.out) | exact HB.out)⟩⟩
 case round =>
  clear H'
  try clear c2
  try clear p2
  obtain ⟨x11_1, x518000_1, x518001_1, x518002_1, x518003_1, x518004_1, x518005_1, x519000_1, x519001_1, x519002_1, x519003_1, x519004_1, x519005_1, rfl, HA, HK1, BK517, BK518, HB⟩ := hrel
  cases gk with
  | zero => exact absurd HA.out (by simp [weld_Sum.l0])
  | succ k1 =>
   have H := HA.out
   clear HA
   simp only [weld_Sum.l0] at H
   by_cases c4 : x11_1 < (l0.length : Int)
   ·rw [if_pos c4] at H
    have c4b0 : decide (x11_1 < (l0.length : Int)) = true := decide_eq_true c4
    clear c4
    by_cases c5 : 0 ≤ x11_1
    ·rw [if_pos c5] at H
     have c5b0 : decide (0 ≤ x11_1) = true := decide_eq_true c5
     clear c5
     by_cases c6 : x11_1 < (l0.length : Int)
     ·rw [if_pos c6] at H
      have c6b0 : decide (x11_1 < (l0.length : Int)) = true := decide_eq_true c6
      clear c6
      replace H := Option.bind_eq_some_iff.mp H
      obtain ⟨⟨t521, t522, t523, t524, t525, t526, t527⟩, A70, H⟩ := H
      replace H : (if t527 = 0 then (weld_Sum.l0 k1 l0 (l0.length : Int) (wrap64 (x11_1 + 1)) t521 t522 t523 t524 t525 t526) else (some (0, 0, 0, 0, (⟨#[]⟩ : ByteArray), (⟨#[]⟩ : ByteArray), t527))) = some (r1, r2, r3, r4, r5, r6, r7) := H
      have A7 := Aside0.mk A70
      clear A70
      by_cases c8 : t527 = 0
      ·rw [if_pos c8] at H
       have c8b0 : (t527 == 0) = true := beq_iff_eq.mpr c8
       have c8b1 : (t527 != 0) = false := bne_eq_false_iff_eq.mpr c8
       clear c8
       have H' := Aside0.mk H
       clear H
       have p519 : 0 ≤ (x11_1 : Int) := of_decide_eq_true (by first | (with_reducible assumption) | assumption)
       have q519 : x11_1 < (l0.length : Int) := of_decide_eq_true (by first | (with_reducible assumption) | assumption)
       obtain ⟨ad519, e519, hx519_0, hx519_1, hx519_2, hx519_3, hx519_4, hx519_5⟩ := at_T26 HR0.out x11_1 p519 q519
       cases e519
       replace hx519_0 := (HB.out.cell (World.block_lt_of_cell? w _ hx519_0)).trans hx519_0
       replace hx519_1 := (HB.out.cell (World.block_lt_of_cell? w _ hx519_1)).trans hx519_1
       replace hx519_2 := (HB.out.cell (World.block_lt_of_cell? w _ hx519_2)).trans hx519_2
       replace hx519_3 := (HB.out.cell (World.block_lt_of_cell? w _ hx519_3)).trans hx519_3
       replace hx519_4 := (HB.out.cell (World.block_lt_of_cell? w _ hx519_4)).trans hx519_4
       replace hx519_5 := (HB.out.cell (World.block_lt_of_cell? w _ hx519_5)).trans hx519_5
       replace p519 := eq_true p519
       replace q519 := eq_true q519
       go_wp2_with (first | ((with_reducible refine gate_dst (N := 6) rfl ?_); refine box_event ?hg (N := 6) ?hd (cs := #[.int .i64 0, .int .i64 0, .int .i64 0, .int .i64 0, .string (⟨#[]⟩ : ByteArray), .string (⟨#[]⟩ : ByteArray)]) (t := 26) ?hr ?_; (case hd => rfl); (case hg => rfl); (case hr => first | (go_simp; done) | (go_simp; rfl)); intro gb520 hg w9 hbox hb; have n0_ := Aside0.mk (blk_below (g := gb517) (o := .cells #[.int .i64 x518000_1, .int .i64 x518001_1, .int .i64 x518002_1, .int .i64 x518003_1, .string x518004_1, .string x518005_1] 26 (0, 0)) (by (with_reducible repeat (first | refine blk_drewN ?_ _ | refine blk_drew ?_ | refine blk_alloc ?_ _)); exact BK517.out) hb); have n1_ := Aside0.mk (blk_below (g := gb518) (o := .cells #[.int .i64 x519000_1, .int .i64 x519001_1, .int .i64 x519002_1, .int .i64 x519003_1, .string x519004_1, .string x519005_1] 26 (0, 0)) (by (with_reducible repeat (first | refine blk_drewN ?_ _ | refine blk_drew ?_ | refine blk_alloc ?_ _)); exact BK518.out) hb); have n2_ := Aside0.mk (below_step (by repeat (first | (with_reducible first | exact HB.out | apply below_alloc | apply pw_below_drewN | apply below_drew1 | refine below_set ?_ GE517.out | refine below_set ?_ GE518.out) | exact HB.out)) hb); have n3_ := Aside0.mk (hbox); have n4_ := Aside0.mk ((by rw [hg]; exact (below_size (by repeat (first | (with_reducible first | exact HB.out | apply below_alloc | apply pw_below_drewN | apply below_drew1 | refine below_set ?_ GE517.out | refine below_set ?_ GE518.out) | exact HB.out))) : w.heap.size ≤ gb520)); have n5_ := Aside0.mk ((by rw [hg]; exact (below_size (by repeat (first | (with_reducible first | exact HB.out | apply below_alloc | apply pw_below_drewN | apply below_drew1 | refine below_set ?_ GE517.out | refine below_set ?_ GE518.out) | exact HB.out))) : w.heap.size ≤ gb520)); have n6_ := Aside0.mk ((by rw [hg]; exact Nat.ne_of_lt (blk_lt (g := gb517) (o := .cells #[.int .i64 x518000_1, .int .i64 x518001_1, .int .i64 x518002_1, .int .i64 x518003_1, .string x518004_1, .string x518005_1] 26 (0, 0)) (by (with_reducible repeat (first | refine blk_drewN ?_ _ | refine blk_drew ?_ | refine blk_alloc ?_ _)); exact BK517.out)) : gb517 ≠ gb520)); have n7_ := Aside0.mk ((by rw [hg]; exact Nat.ne_of_gt (blk_lt (g := gb517) (o := .cells #[.int .i64 x518000_1, .int .i64 x518001_1, .int .i64 x518002_1, .int .i64 x518003_1, .string x518004_1, .string x518005_1] 26 (0, 0)) (by (with_reducible repeat (first | refine blk_drewN ?_ _ | refine blk_drew ?_ | refine blk_alloc ?_ _)); exact BK517.out)) : gb520 ≠ gb517)); have n8_ := Aside0.mk ((by rw [hg]; exact Nat.ne_of_lt (blk_lt (g := gb518) (o := .cells #[.int .i64 x519000_1, .int .i64 x519001_1, .int .i64 x519002_1, .int .i64 x519003_1, .string x519004_1, .string x519005_1] 26 (0, 0)) (by (with_reducible repeat (first | refine blk_drewN ?_ _ | refine blk_drew ?_ | refine blk_alloc ?_ _)); exact BK518.out)) : gb518 ≠ gb520)); have n9_ := Aside0.mk ((by rw [hg]; exact Nat.ne_of_gt (blk_lt (g := gb518) (o := .cells #[.int .i64 x519000_1, .int .i64 x519001_1, .int .i64 x519002_1, .int .i64 x519003_1, .string x519004_1, .string x519005_1] 26 (0, 0)) (by (with_reducible repeat (first | refine blk_drewN ?_ _ | refine blk_drew ?_ | refine blk_alloc ?_ _)); exact BK518.out)) : gb520 ≠ gb518)); clear BK517; clear BK518; clear HB; have BK517 := n0_; have BK518 := n1_; have HB := n2_; have BK520 := n3_; have GW520 := n4_; have GE520 := n5_; have NB517_520 := n6_; have NB520_517 := n7_; have NB518_520 := n8_; have NB520_518 := n9_; clear n0_ n1_ n2_ n3_ n4_ n5_ n6_ n7_ n8_ n9_; clear hb hbox hg; have hnb10 := NB520_517.out; have hnc10 := NB517_520.out; have hnb11 := NB520_518.out; have hnc11 := NB518_520.out; have hcz12_0 : w9.cell? ⟨gb520, 0, none⟩ = some (.int .i64 0) := (blk_cell BK520.out 0).trans rfl; have hcz12_1 : w9.cell? ⟨gb520, 1, none⟩ = some (.int .i64 0) := (blk_cell BK520.out 1).trans rfl; have hcz12_2 : w9.cell? ⟨gb520, 2, none⟩ = some (.int .i64 0) := (blk_cell BK520.out 2).trans rfl; have hcz12_3 : w9.cell? ⟨gb520, 3, none⟩ = some (.int .i64 0) := (blk_cell BK520.out 3).trans rfl; have hcz12_4 : w9.cell? ⟨gb520, 4, none⟩ = some (.string (⟨#[]⟩ : ByteArray)) := (blk_cell BK520.out 4).trans rfl; have hcz12_5 : w9.cell? ⟨gb520, 5, none⟩ = some (.string (⟨#[]⟩ : ByteArray)) := (blk_cell BK520.out 5).trans rfl; have hfz12_0 := blk_frozen BK520.out 0; have hfz12_1 := blk_frozen BK520.out 1; have hfz12_2 := blk_frozen BK520.out 2; have hfz12_3 := blk_frozen BK520.out 3; have hfz12_4 := blk_frozen BK520.out 4; have hfz12_5 := blk_frozen BK520.out 5; have hnb13 := NB518_517.out; have hnc13 := NB517_518.out; have hcz14_0 : w9.cell? ⟨gb518, 0, none⟩ = some (.int .i64 x519000_1) := (blk_cell BK518.out 0).trans rfl; have hcz14_1 : w9.cell? ⟨gb518, 1, none⟩ = some (.int .i64 x519001_1) := (blk_cell BK518.out 1).trans rfl; have hcz14_2 : w9.cell? ⟨gb518, 2, none⟩ = some (.int .i64 x519002_1) := (blk_cell BK518.out 2).trans rfl; have hcz14_3 : w9.cell? ⟨gb518, 3, none⟩ = some (.int .i64 x519003_1) := (blk_cell BK518.out 3).trans rfl; have hcz14_4 : w9.cell? ⟨gb518, 4, none⟩ = some (.string x519004_1) := (blk_cell BK518.out 4).trans rfl; have hcz14_5 : w9.cell? ⟨gb518, 5, none⟩ = some (.string x519005_1) := (blk_cell BK518.out 5).trans rfl; have hfz14_0 := blk_frozen BK518.out 0; have hfz14_1 := blk_frozen BK518.out 1; have hfz14_2 := blk_frozen BK518.out 2; have hfz14_3 := blk_frozen BK518.out 3; have hfz14_4 := blk_frozen BK518.out 4; have hfz14_5 := blk_frozen BK518.out 5) | ((with_reducible refine gate_callee (f := 17) rfl ?_); refine goesL_ (some 18) rfl rfl Tryd.func17 (by kernel_rfl) rfl #[.agg #[.int .i64 x519000_1, .int .i64 x519001_1, .int .i64 x519002_1, .int .i64 x519003_1, .string x519004_1, .string x519005_1], .agg #[.int .i64 ((rd_T26 l0 x11_1).f0.f0), .int .i64 ((rd_T26 l0 x11_1).f0.f1), .int .i64 ((rd_T26 l0 x11_1).f0.f2), .int .i64 ((rd_T26 l0 x11_1).f0.f3), .string ((rd_T26 l0 x11_1).f1), .string ((rd_T26 l0 x11_1).f2)]] rfl (by (try simp only [List.map_toArray, List.map_cons, List.map_nil]); first | done | rfl | (simp only [List.length_drop, List.length_take]; rfl)) ?_; (with_reducible refine (weld_Join.calls k1 x519000_1 x519001_1 x519002_1 x519003_1 x519004_1 x519005_1 ((rd_T26 l0 x11_1).f0.f0) ((rd_T26 l0 x11_1).f0.f1) ((rd_T26 l0 x11_1).f0.f2) ((rd_T26 l0 x11_1).f0.f3) ((rd_T26 l0 x11_1).f1) ((rd_T26 l0 x11_1).f2) t521 t522 t523 t524 t525 t526 t527 _ ?side1 A7.out).mono ?_); (case side1 => first | (with_reducible exact HG.out) | exact Glob.Globs_below HG.out (by repeat (first | (with_reducible first | exact HB.out | apply below_alloc | apply pw_below_drewN | apply below_drew1 | refine below_set ?_ GE517.out | refine below_set ?_ GE518.out | refine below_set ?_ GE520.out) | exact HB.out))); rintro e w15 ⟨rfl, hb⟩; refine ⟨_, rfl, ?_⟩; have n0_ := Aside0.mk (blk_below (g := gb517) (o := .cells #[.int .i64 x518000_1, .int .i64 x518001_1, .int .i64 x518002_1, .int .i64 x518003_1, .string x518004_1, .string x518005_1] 26 (0, 0)) (by (with_reducible repeat (first | refine blk_drewN ?_ _ | refine blk_drew ?_ | refine blk_alloc ?_ _)); refine blk_far ?_ NB517_520.out _; (with_reducible repeat (first | refine blk_drewN ?_ _ | refine blk_drew ?_ | refine blk_alloc ?_ _)); refine blk_far ?_ NB517_520.out _; (with_reducible repeat (first | refine blk_drewN ?_ _ | refine blk_drew ?_ | refine blk_alloc ?_ _)); refine blk_far ?_ NB517_520.out _; (with_reducible repeat (first | refine blk_drewN ?_ _ | refine blk_drew ?_ | refine blk_alloc ?_ _)); refine blk_far ?_ NB517_520.out _; (with_reducible repeat (first | refine blk_drewN ?_ _ | refine blk_drew ?_ | refine blk_alloc ?_ _)); refine blk_far ?_ NB517_520.out _; (with_reducible repeat (first | refine blk_drewN ?_ _ | refine blk_drew ?_ | refine blk_alloc ?_ _)); refine blk_far ?_ NB517_520.out _; (with_reducible repeat (first | refine blk_drewN ?_ _ | refine blk_drew ?_ | refine blk_alloc ?_ _)); exact BK517.out) hb); have n1_ := Aside0.mk (blk_below (g := gb518) (o := .cells #[.int .i64 x519000_1, .int .i64 x519001_1, .int .i64 x519002_1, .int .i64 x519003_1, .string x519004_1, .string x519005_1] 26 (0, 0)) (by (with_reducible repeat (first | refine blk_drewN ?_ _ | refine blk_drew ?_ | refine blk_alloc ?_ _)); refine blk_far ?_ NB518_520.out _; (with_reducible repeat (first | refine blk_drewN ?_ _ | refine blk_drew ?_ | refine blk_alloc ?_ _)); refine blk_far ?_ NB518_520.out _; (with_reducible repeat (first | refine blk_drewN ?_ _ | refine blk_drew ?_ | refine blk_alloc ?_ _)); refine blk_far ?_ NB518_520.out _; (with_reducible repeat (first | refine blk_drewN ?_ _ | refine blk_drew ?_ | refine blk_alloc ?_ _)); refine blk_far ?_ NB518_520.out _; (with_reducible repeat (first | refine blk_drewN ?_ _ | refine blk_drew ?_ | refine blk_alloc ?_ _)); refine blk_far ?_ NB518_520.out _; (with_reducible repeat (first | refine blk_drewN ?_ _ | refine blk_drew ?_ | refine blk_alloc ?_ _)); refine blk_far ?_ NB518_520.out _; (with_reducible repeat (first | refine blk_drewN ?_ _ | refine blk_drew ?_ | refine blk_alloc ?_ _)); exact BK518.out) hb); have n2_ := Aside0.mk (blk_below (g := gb520) (o := .cells #[.int .i64 ((rd_T26 l0 x11_1).f0.f0), .int .i64 ((rd_T26 l0 x11_1).f0.f1), .int .i64 ((rd_T26 l0 x11_1).f0.f2), .int .i64 ((rd_T26 l0 x11_1).f0.f3), .string ((rd_T26 l0 x11_1).f1), .string ((rd_T26 l0 x11_1).f2)] 26 (0, 0)) (by (with_reducible repeat (first | refine blk_drewN ?_ _ | refine blk_drew ?_ | refine blk_alloc ?_ _)); refine blk_put (cs := #[.int .i64 ((rd_T26 l0 x11_1).f0.f0), .int .i64 ((rd_T26 l0 x11_1).f0.f1), .int .i64 ((rd_T26 l0 x11_1).f0.f2), .int .i64 ((rd_T26 l0 x11_1).f0.f3), .string ((rd_T26 l0 x11_1).f1), .string (⟨#[]⟩ : ByteArray)]) ?_ 5 _ rfl; (with_reducible repeat (first | refine blk_drewN ?_ _ | refine blk_drew ?_ | refine blk_alloc ?_ _)); refine blk_put (cs := #[.int .i64 ((rd_T26 l0 x11_1).f0.f0), .int .i64 ((rd_T26 l0 x11_1).f0.f1), .int .i64 ((rd_T26 l0 x11_1).f0.f2), .int .i64 ((rd_T26 l0 x11_1).f0.f3), .string (⟨#[]⟩ : ByteArray), .string (⟨#[]⟩ : ByteArray)]) ?_ 4 _ rfl; (with_reducible repeat (first | refine blk_drewN ?_ _ | refine blk_drew ?_ | refine blk_alloc ?_ _)); refine blk_put (cs := #[.int .i64 ((rd_T26 l0 x11_1).f0.f0), .int .i64 ((rd_T26 l0 x11_1).f0.f1), .int .i64 ((rd_T26 l0 x11_1).f0.f2), .int .i64 0, .string (⟨#[]⟩ : ByteArray), .string (⟨#[]⟩ : ByteArray)]) ?_ 3 _ rfl; (with_reducible repeat (first | refine blk_drewN ?_ _ | refine blk_drew ?_ | refine blk_alloc ?_ _)); refine blk_put (cs := #[.int .i64 ((rd_T26 l0 x11_1).f0.f0), .int .i64 ((rd_T26 l0 x11_1).f0.f1), .int .i64 0, .int .i64 0, .string (⟨#[]⟩ : ByteArray), .string (⟨#[]⟩ : ByteArray)]) ?_ 2 _ rfl; (with_reducible repeat (first | refine blk_drewN ?_ _ | refine blk_drew ?_ | refine blk_alloc ?_ _)); refine blk_put (cs := #[.int .i64 ((rd_T26 l0 x11_1).f0.f0), .int .i64 0, .int .i64 0, .int .i64 0, .string (⟨#[]⟩ : ByteArray), .string (⟨#[]⟩ : ByteArray)]) ?_ 1 _ rfl; (with_reducible repeat (first | refine blk_drewN ?_ _ | refine blk_drew ?_ | refine blk_alloc ?_ _)); refine blk_put (cs := #[.int .i64 0, .int .i64 0, .int .i64 0, .int .i64 0, .string (⟨#[]⟩ : ByteArray), .string (⟨#[]⟩ : ByteArray)]) ?_ 0 _ rfl; (with_reducible repeat (first | refine blk_drewN ?_ _ | refine blk_drew ?_ | refine blk_alloc ?_ _)); exact BK520.out) hb); have n3_ := Aside0.mk (below_step (by repeat (first | (with_reducible first | exact HB.out | apply below_alloc | apply pw_below_drewN | apply below_drew1 | refine below_set ?_ GE517.out | refine below_set ?_ GE518.out | refine below_set ?_ GE520.out) | exact HB.out)) hb); clear BK517; clear BK518; clear BK520; clear HB; have BK517 := n0_; have BK518 := n1_; have BK520 := n2_; have HB := n3_; clear n0_ n1_ n2_ n3_; (try clear hb); (try clear hb2); (try clear hk); (try clear hi)) | ((with_reducible refine gate_dst (N := 7) rfl ?_); refine box_event ?hg (N := 7) ?hd (cs := #[.int .i64 0, .int .i64 0, .int .i64 0, .int .i64 0, .string (⟨#[]⟩ : ByteArray), .string (⟨#[]⟩ : ByteArray)]) (t := 26) ?hr ?_; (case hd => rfl); (case hg => rfl); (case hr => first | (go_simp; done) | (go_simp; rfl)); intro gb528 hg w16 hbox hb; have n0_ := Aside0.mk (blk_below (g := gb517) (o := .cells #[.int .i64 x518000_1, .int .i64 x518001_1, .int .i64 x518002_1, .int .i64 x518003_1, .string x518004_1, .string x518005_1] 26 (0, 0)) (by (with_reducible repeat (first | refine blk_drewN ?_ _ | refine blk_drew ?_ | refine blk_alloc ?_ _)); exact BK517.out) hb); have n1_ := Aside0.mk (blk_below (g := gb518) (o := .cells #[.int .i64 x519000_1, .int .i64 x519001_1, .int .i64 x519002_1, .int .i64 x519003_1, .string x519004_1, .string x519005_1] 26 (0, 0)) (by (with_reducible repeat (first | refine blk_drewN ?_ _ | refine blk_drew ?_ | refine blk_alloc ?_ _)); exact BK518.out) hb); have n2_ := Aside0.mk (blk_below (g := gb520) (o := .cells #[.int .i64 ((rd_T26 l0 x11_1).f0.f0), .int .i64 ((rd_T26 l0 x11_1).f0.f1), .int .i64 ((rd_T26 l0 x11_1).f0.f2), .int .i64 ((rd_T26 l0 x11_1).f0.f3), .string ((rd_T26 l0 x11_1).f1), .string ((rd_T26 l0 x11_1).f2)] 26 (0, 0)) (by (with_reducible repeat (first | refine blk_drewN ?_ _ | refine blk_drew ?_ | refine blk_alloc ?_ _)); exact BK520.out) hb); have n3_ := Aside0.mk (below_step (by repeat (first | (with_reducible first | exact HB.out | apply below_alloc | apply pw_below_drewN | apply below_drew1 | refine below_set ?_ GE517.out | refine below_set ?_ GE518.out | refine below_set ?_ GE520.out) | exact HB.out)) hb); have n4_ := Aside0.mk (hbox); have n5_ := Aside0.mk ((by rw [hg]; exact (below_size (by repeat (first | (with_reducible first | exact HB.out | apply below_alloc | apply pw_below_drewN | apply below_drew1 | refine below_set ?_ GE517.out | refine below_set ?_ GE518.out | refine below_set ?_ GE520.out) | exact HB.out))) : w.heap.size ≤ gb528)); have n6_ := Aside0.mk ((by rw [hg]; exact (below_size (by repeat (first | (with_reducible first | exact HB.out | apply below_alloc | apply pw_below_drewN | apply below_drew1 | refine below_set ?_ GE517.out | refine below_set ?_ GE518.out | refine below_set ?_ GE520.out) | exact HB.out))) : w.heap.size ≤ gb528)); have n7_ := Aside0.mk ((by rw [hg]; exact Nat.ne_of_lt (blk_lt (g := gb517) (o := .cells #[.int .i64 x518000_1, .int .i64 x518001_1, .int .i64 x518002_1, .int .i64 x518003_1, .string x518004_1, .string x518005_1] 26 (0, 0)) (by (with_reducible repeat (first | refine blk_drewN ?_ _ | refine blk_drew ?_ | refine blk_alloc ?_ _)); exact BK517.out)) : gb517 ≠ gb528)); have n8_ := Aside0.mk ((by rw [hg]; exact Nat.ne_of_gt (blk_lt (g := gb517) (o := .cells #[.int .i64 x518000_1, .int .i64 x518001_1, .int .i64 x518002_1, .int .i64 x518003_1, .string x518004_1, .string x518005_1] 26 (0, 0)) (by (with_reducible repeat (first | refine blk_drewN ?_ _ | refine blk_drew ?_ | refine blk_alloc ?_ _)); exact BK517.out)) : gb528 ≠ gb517)); have n9_ := Aside0.mk ((by rw [hg]; exact Nat.ne_of_lt (blk_lt (g := gb518) (o := .cells #[.int .i64 x519000_1, .int .i64 x519001_1, .int .i64 x519002_1, .int .i64 x519003_1, .string x519004_1, .string x519005_1] 26 (0, 0)) (by (with_reducible repeat (first | refine blk_drewN ?_ _ | refine blk_drew ?_ | refine blk_alloc ?_ _)); exact BK518.out)) : gb518 ≠ gb528)); have n10_ := Aside0.mk ((by rw [hg]; exact Nat.ne_of_gt (blk_lt (g := gb518) (o := .cells #[.int .i64 x519000_1, .int .i64 x519001_1, .int .i64 x519002_1, .int .i64 x519003_1, .string x519004_1, .string x519005_1] 26 (0, 0)) (by (with_reducible repeat (first | refine blk_drewN ?_ _ | refine blk_drew ?_ | refine blk_alloc ?_ _)); exact BK518.out)) : gb528 ≠ gb518)); have n11_ := Aside0.mk ((by rw [hg]; exact Nat.ne_of_lt (blk_lt (g := gb520) (o := .cells #[.int .i64 ((rd_T26 l0 x11_1).f0.f0), .int .i64 ((rd_T26 l0 x11_1).f0.f1), .int .i64 ((rd_T26 l0 x11_1).f0.f2), .int .i64 ((rd_T26 l0 x11_1).f0.f3), .string ((rd_T26 l0 x11_1).f1), .string ((rd_T26 l0 x11_1).f2)] 26 (0, 0)) (by (with_reducible repeat (first | refine blk_drewN ?_ _ | refine blk_drew ?_ | refine blk_alloc ?_ _)); exact BK520.out)) : gb520 ≠ gb528)); have n12_ := Aside0.mk ((by rw [hg]; exact Nat.ne_of_gt (blk_lt (g := gb520) (o := .cells #[.int .i64 ((rd_T26 l0 x11_1).f0.f0), .int .i64 ((rd_T26 l0 x11_1).f0.f1), .int .i64 ((rd_T26 l0 x11_1).f0.f2), .int .i64 ((rd_T26 l0 x11_1).f0.f3), .string ((rd_T26 l0 x11_1).f1), .string ((rd_T26 l0 x11_1).f2)] 26 (0, 0)) (by (with_reducible repeat (first | refine blk_drewN ?_ _ | refine blk_drew ?_ | refine blk_alloc ?_ _)); exact BK520.out)) : gb528 ≠ gb520)); clear BK517; clear BK518; clear BK520; clear HB; have BK517 := n0_; have BK518 := n1_; have BK520 := n2_; have HB := n3_; have BK528 := n4_; have GW528 := n5_; have GE528 := n6_; have NB517_528 := n7_; have NB528_517 := n8_; have NB518_528 := n9_; have NB528_518 := n10_; have NB520_528 := n11_; have NB528_520 := n12_; clear n0_ n1_ n2_ n3_ n4_ n5_ n6_ n7_ n8_ n9_ n10_ n11_ n12_; clear hb hbox hg; have hnb17 := NB528_517.out; have hnc17 := NB517_528.out; have hnb18 := NB528_518.out; have hnc18 := NB518_528.out; have hnb19 := NB528_520.out; have hnc19 := NB520_528.out; have hcz20_0 : w16.cell? ⟨gb528, 0, none⟩ = some (.int .i64 0) := (blk_cell BK528.out 0).trans rfl; have hcz20_1 : w16.cell? ⟨gb528, 1, none⟩ = some (.int .i64 0) := (blk_cell BK528.out 1).trans rfl; have hcz20_2 : w16.cell? ⟨gb528, 2, none⟩ = some (.int .i64 0) := (blk_cell BK528.out 2).trans rfl; have hcz20_3 : w16.cell? ⟨gb528, 3, none⟩ = some (.int .i64 0) := (blk_cell BK528.out 3).trans rfl; have hcz20_4 : w16.cell? ⟨gb528, 4, none⟩ = some (.string (⟨#[]⟩ : ByteArray)) := (blk_cell BK528.out 4).trans rfl; have hcz20_5 : w16.cell? ⟨gb528, 5, none⟩ = some (.string (⟨#[]⟩ : ByteArray)) := (blk_cell BK528.out 5).trans rfl; have hfz20_0 := blk_frozen BK528.out 0; have hfz20_1 := blk_frozen BK528.out 1; have hfz20_2 := blk_frozen BK528.out 2; have hfz20_3 := blk_frozen BK528.out 3; have hfz20_4 := blk_frozen BK528.out 4; have hfz20_5 := blk_frozen BK528.out 5; have hcz21_0 : w16.cell? ⟨gb518, 0, none⟩ = some (.int .i64 x519000_1) := (blk_cell BK518.out 0).trans rfl; have hcz21_1 : w16.cell? ⟨gb518, 1, none⟩ = some (.int .i64 x519001_1) := (blk_cell BK518.out 1).trans rfl; have hcz21_2 : w16.cell? ⟨gb518, 2, none⟩ = some (.int .i64 x519002_1) := (blk_cell BK518.out 2).trans rfl; have hcz21_3 : w16.cell? ⟨gb518, 3, none⟩ = some (.int .i64 x519003_1) := (blk_cell BK518.out 3).trans rfl; have hcz21_4 : w16.cell? ⟨gb518, 4, none⟩ = some (.string x519004_1) := (blk_cell BK518.out 4).trans rfl; have hcz21_5 : w16.cell? ⟨gb518, 5, none⟩ = some (.string x519005_1) := (blk_cell BK518.out 5).trans rfl; have hfz21_0 := blk_frozen BK518.out 0; have hfz21_1 := blk_frozen BK518.out 1; have hfz21_2 := blk_frozen BK518.out 2; have hfz21_3 := blk_frozen BK518.out 3; have hfz21_4 := blk_frozen BK518.out 4; have hfz21_5 := blk_frozen BK518.out 5))
       go_roundg k1
       case measure => have := HK1.out; omega
       case rel => exact ⟨(wrap64 (x11_1 + 1)), (x518000_1), (x518001_1), (x518002_1), (x518003_1), (x518004_1), (x518005_1), (t521), (t522), (t523), (t524), (t525), (t526), (by first | rfl | (simp; done) | (simp [*]; done)), H', ⟨by have := HK1.out; omega⟩, ⟨by (with_reducible repeat (first | refine blk_drewN ?_ _ | refine blk_drew ?_ | refine blk_alloc ?_ _)); refine blk_far ?_ NB517_518.out _; (with_reducible repeat (first | refine blk_drewN ?_ _ | refine blk_drew ?_ | refine blk_alloc ?_ _)); refine blk_far ?_ NB517_518.out _; (with_reducible repeat (first | refine blk_drewN ?_ _ | refine blk_drew ?_ | refine blk_alloc ?_ _)); refine blk_far ?_ NB517_518.out _; (with_reducible repeat (first | refine blk_drewN ?_ _ | refine blk_drew ?_ | refine blk_alloc ?_ _)); refine blk_far ?_ NB517_518.out _; (with_reducible repeat (first | refine blk_drewN ?_ _ | refine blk_drew ?_ | refine blk_alloc ?_ _)); refine blk_far ?_ NB517_518.out _; (with_reducible repeat (first | refine blk_drewN ?_ _ | refine blk_drew ?_ | refine blk_alloc ?_ _)); refine blk_far ?_ NB517_518.out _; (with_reducible repeat (first | refine blk_drewN ?_ _ | refine blk_drew ?_ | refine blk_alloc ?_ _)); refine blk_far ?_ NB517_528.out _; (with_reducible repeat (first | refine blk_drewN ?_ _ | refine blk_drew ?_ | refine blk_alloc ?_ _)); refine blk_far ?_ NB517_528.out _; (with_reducible repeat (first | refine blk_drewN ?_ _ | refine blk_drew ?_ | refine blk_alloc ?_ _)); refine blk_far ?_ NB517_528.out _; (with_reducible repeat (first | refine blk_drewN ?_ _ | refine blk_drew ?_ | refine blk_alloc ?_ _)); refine blk_far ?_ NB517_528.out _; (with_reducible repeat (first | refine blk_drewN ?_ _ | refine blk_drew ?_ | refine blk_alloc ?_ _)); refine blk_far ?_ NB517_528.out _; (with_reducible repeat (first | refine blk_drewN ?_ _ | refine blk_drew ?_ | refine blk_alloc ?_ _)); refine blk_far ?_ NB517_528.out _; (with_reducible repeat (first | refine blk_drewN ?_ _ | refine blk_drew ?_ | refine blk_alloc ?_ _)); exact BK517.out⟩, ⟨by (with_reducible repeat (first | refine blk_drewN ?_ _ | refine blk_drew ?_ | refine blk_alloc ?_ _)); refine blk_put (cs := #[.int .i64 t521, .int .i64 t522, .int .i64 t523, .int .i64 t524, .string t525, .string x519005_1]) ?_ 5 _ rfl; (with_reducible repeat (first | refine blk_drewN ?_ _ | refine blk_drew ?_ | refine blk_alloc ?_ _)); refine blk_put (cs := #[.int .i64 t521, .int .i64 t522, .int .i64 t523, .int .i64 t524, .string x519004_1, .string x519005_1]) ?_ 4 _ rfl; (with_reducible repeat (first | refine blk_drewN ?_ _ | refine blk_drew ?_ | refine blk_alloc ?_ _)); refine blk_put (cs := #[.int .i64 t521, .int .i64 t522, .int .i64 t523, .int .i64 x519003_1, .string x519004_1, .string x519005_1]) ?_ 3 _ rfl; (with_reducible repeat (first | refine blk_drewN ?_ _ | refine blk_drew ?_ | refine blk_alloc ?_ _)); refine blk_put (cs := #[.int .i64 t521, .int .i64 t522, .int .i64 x519002_1, .int .i64 x519003_1, .string x519004_1, .string x519005_1]) ?_ 2 _ rfl; (with_reducible repeat (first | refine blk_drewN ?_ _ | refine blk_drew ?_ | refine blk_alloc ?_ _)); refine blk_put (cs := #[.int .i64 t521, .int .i64 x519001_1, .int .i64 x519002_1, .int .i64 x519003_1, .string x519004_1, .string x519005_1]) ?_ 1 _ rfl; (with_reducible repeat (first | refine blk_drewN ?_ _ | refine blk_drew ?_ | refine blk_alloc ?_ _)); refine blk_put (cs := #[.int .i64 x519000_1, .int .i64 x519001_1, .int .i64 x519002_1, .int .i64 x519003_1, .string x519004_1, .string x519005_1]) ?_ 0 _ rfl; (with_reducible repeat (first | refine blk_drewN ?_ _ | refine blk_drew ?_ | refine blk_alloc ?_ _)); refine blk_far ?_ NB518_528.out _; (with_reducible repeat (first | refine blk_drewN ?_ _ | refine blk_drew ?_ | refine blk_alloc ?_ _)); refine blk_far ?_ NB518_528.out _; (with_reducible repeat (first | refine blk_drewN ?_ _ | refine blk_drew ?_ | refine blk_alloc ?_ _)); refine blk_far ?_ NB518_528.out _; (with_reducible repeat (first | refine blk_drewN ?_ _ | refine blk_drew ?_ | refine blk_alloc ?_ _)); refine blk_far ?_ NB518_528.out _; (with_reducible repeat (first | refine blk_drewN ?_ _ | refine blk_drew ?_ | refine blk_alloc ?_ _)); refine blk_far ?_ NB518_528.out _; (with_reducible repeat (first | refine blk_drewN ?_ _ | refine blk_drew ?_ | refine blk_alloc ?_ _)); refine blk_far ?_ NB518_528.out _; (with_reducible repeat (first | refine blk_drewN ?_ _ | refine blk_drew ?_ | refine blk_alloc ?_ _)); exact BK518.out⟩, ⟨by repeat (first | (with_reducible first | exact HB.out | apply below_alloc | apply pw_below_drewN | apply below_drew1 | refine below_set ?_ GE517.out | refine below_set ?_ GE518.out | refine below_set ?_ GE520.out | refine below_set ?_ GE528.out) | exact HB.out)⟩⟩
      ·rw [if_neg c8] at H
       have c8b0 : (t527 == 0) = false := beq_eq_false_iff_ne.mpr c8
       have c8b1 : (t527 != 0) = true := bne_iff_ne.mpr c8
       simp only [Option.some.injEq, Prod.mk.injEq] at H
       obtain ⟨rfl, rfl, rfl, rfl, rfl, rfl, rfl⟩ := H
       have p519 : 0 ≤ (x11_1 : Int) := of_decide_eq_true (by first | (with_reducible assumption) | assumption)
       have q519 : x11_1 < (l0.length : Int) := of_decide_eq_true (by first | (with_reducible assumption) | assumption)
       obtain ⟨ad519, e519, hx519_0, hx519_1, hx519_2, hx519_3, hx519_4, hx519_5⟩ := at_T26 HR0.out x11_1 p519 q519
       cases e519
       replace hx519_0 := (HB.out.cell (World.block_lt_of_cell? w _ hx519_0)).trans hx519_0
       replace hx519_1 := (HB.out.cell (World.block_lt_of_cell? w _ hx519_1)).trans hx519_1
       replace hx519_2 := (HB.out.cell (World.block_lt_of_cell? w _ hx519_2)).trans hx519_2
       replace hx519_3 := (HB.out.cell (World.block_lt_of_cell? w _ hx519_3)).trans hx519_3
       replace hx519_4 := (HB.out.cell (World.block_lt_of_cell? w _ hx519_4)).trans hx519_4
       replace hx519_5 := (HB.out.cell (World.block_lt_of_cell? w _ hx519_5)).trans hx519_5
       replace p519 := eq_true p519
       replace q519 := eq_true q519
       go_wp2_with (first | ((with_reducible refine gate_dst (N := 6) rfl ?_); refine box_event ?hg (N := 6) ?hd (cs := #[.int .i64 0, .int .i64 0, .int .i64 0, .int .i64 0, .string (⟨#[]⟩ : ByteArray), .string (⟨#[]⟩ : ByteArray)]) (t := 26) ?hr ?_; (case hd => rfl); (case hg => rfl); (case hr => first | (go_simp; done) | (go_simp; rfl)); intro gb520 hg w22 hbox hb; have n0_ := Aside0.mk (blk_below (g := gb517) (o := .cells #[.int .i64 x518000_1, .int .i64 x518001_1, .int .i64 x518002_1, .int .i64 x518003_1, .string x518004_1, .string x518005_1] 26 (0, 0)) (by (with_reducible repeat (first | refine blk_drewN ?_ _ | refine blk_drew ?_ | refine blk_alloc ?_ _)); exact BK517.out) hb); have n1_ := Aside0.mk (blk_below (g := gb518) (o := .cells #[.int .i64 x519000_1, .int .i64 x519001_1, .int .i64 x519002_1, .int .i64 x519003_1, .string x519004_1, .string x519005_1] 26 (0, 0)) (by (with_reducible repeat (first | refine blk_drewN ?_ _ | refine blk_drew ?_ | refine blk_alloc ?_ _)); exact BK518.out) hb); have n2_ := Aside0.mk (below_step (by repeat (first | (with_reducible first | exact HB.out | apply below_alloc | apply pw_below_drewN | apply below_drew1 | refine below_set ?_ GE517.out | refine below_set ?_ GE518.out) | exact HB.out)) hb); have n3_ := Aside0.mk (hbox); have n4_ := Aside0.mk ((by rw [hg]; exact (below_size (by repeat (first | (with_reducible first | exact HB.out | apply below_alloc | apply pw_below_drewN | apply below_drew1 | refine below_set ?_ GE517.out | refine below_set ?_ GE518.out) | exact HB.out))) : w.heap.size ≤ gb520)); have n5_ := Aside0.mk ((by rw [hg]; exact (below_size (by repeat (first | (with_reducible first | exact HB.out | apply below_alloc | apply pw_below_drewN | apply below_drew1 | refine below_set ?_ GE517.out | refine below_set ?_ GE518.out) | exact HB.out))) : w.heap.size ≤ gb520)); have n6_ := Aside0.mk ((by rw [hg]; exact Nat.ne_of_lt (blk_lt (g := gb517) (o := .cells #[.int .i64 x518000_1, .int .i64 x518001_1, .int .i64 x518002_1, .int .i64 x518003_1, .string x518004_1, .string x518005_1] 26 (0, 0)) (by (with_reducible repeat (first | refine blk_drewN ?_ _ | refine blk_drew ?_ | refine blk_alloc ?_ _)); exact BK517.out)) : gb517 ≠ gb520)); have n7_ := Aside0.mk ((by rw [hg]; exact Nat.ne_of_gt (blk_lt (g := gb517) (o := .cells #[.int .i64 x518000_1, .int .i64 x518001_1, .int .i64 x518002_1, .int .i64 x518003_1, .string x518004_1, .string x518005_1] 26 (0, 0)) (by (with_reducible repeat (first | refine blk_drewN ?_ _ | refine blk_drew ?_ | refine blk_alloc ?_ _)); exact BK517.out)) : gb520 ≠ gb517)); have n8_ := Aside0.mk ((by rw [hg]; exact Nat.ne_of_lt (blk_lt (g := gb518) (o := .cells #[.int .i64 x519000_1, .int .i64 x519001_1, .int .i64 x519002_1, .int .i64 x519003_1, .string x519004_1, .string x519005_1] 26 (0, 0)) (by (with_reducible repeat (first | refine blk_drewN ?_ _ | refine blk_drew ?_ | refine blk_alloc ?_ _)); exact BK518.out)) : gb518 ≠ gb520)); have n9_ := Aside0.mk ((by rw [hg]; exact Nat.ne_of_gt (blk_lt (g := gb518) (o := .cells #[.int .i64 x519000_1, .int .i64 x519001_1, .int .i64 x519002_1, .int .i64 x519003_1, .string x519004_1, .string x519005_1] 26 (0, 0)) (by (with_reducible repeat (first | refine blk_drewN ?_ _ | refine blk_drew ?_ | refine blk_alloc ?_ _)); exact BK518.out)) : gb520 ≠ gb518)); clear BK517; clear BK518; clear HB; have BK517 := n0_; have BK518 := n1_; have HB := n2_; have BK520 := n3_; have GW520 := n4_; have GE520 := n5_; have NB517_520 := n6_; have NB520_517 := n7_; have NB518_520 := n8_; have NB520_518 := n9_; clear n0_ n1_ n2_ n3_ n4_ n5_ n6_ n7_ n8_ n9_; clear hb hbox hg; have hnb23 := NB520_517.out; have hnc23 := NB517_520.out; have hnb24 := NB520_518.out; have hnc24 := NB518_520.out; have hcz25_0 : w22.cell? ⟨gb520, 0, none⟩ = some (.int .i64 0) := (blk_cell BK520.out 0).trans rfl; have hcz25_1 : w22.cell? ⟨gb520, 1, none⟩ = some (.int .i64 0) := (blk_cell BK520.out 1).trans rfl; have hcz25_2 : w22.cell? ⟨gb520, 2, none⟩ = some (.int .i64 0) := (blk_cell BK520.out 2).trans rfl; have hcz25_3 : w22.cell? ⟨gb520, 3, none⟩ = some (.int .i64 0) := (blk_cell BK520.out 3).trans rfl; have hcz25_4 : w22.cell? ⟨gb520, 4, none⟩ = some (.string (⟨#[]⟩ : ByteArray)) := (blk_cell BK520.out 4).trans rfl; have hcz25_5 : w22.cell? ⟨gb520, 5, none⟩ = some (.string (⟨#[]⟩ : ByteArray)) := (blk_cell BK520.out 5).trans rfl; have hfz25_0 := blk_frozen BK520.out 0; have hfz25_1 := blk_frozen BK520.out 1; have hfz25_2 := blk_frozen BK520.out 2; have hfz25_3 := blk_frozen BK520.out 3; have hfz25_4 := blk_frozen BK520.out 4; have hfz25_5 := blk_frozen BK520.out 5; have hnb26 := NB518_517.out; have hnc26 := NB517_518.out; have hcz27_0 : w22.cell? ⟨gb518, 0, none⟩ = some (.int .i64 x519000_1) := (blk_cell BK518.out 0).trans rfl; have hcz27_1 : w22.cell? ⟨gb518, 1, none⟩ = some (.int .i64 x519001_1) := (blk_cell BK518.out 1).trans rfl; have hcz27_2 : w22.cell? ⟨gb518, 2, none⟩ = some (.int .i64 x519002_1) := (blk_cell BK518.out 2).trans rfl; have hcz27_3 : w22.cell? ⟨gb518, 3, none⟩ = some (.int .i64 x519003_1) := (blk_cell BK518.out 3).trans rfl; have hcz27_4 : w22.cell? ⟨gb518, 4, none⟩ = some (.string x519004_1) := (blk_cell BK518.out 4).trans rfl; have hcz27_5 : w22.cell? ⟨gb518, 5, none⟩ = some (.string x519005_1) := (blk_cell BK518.out 5).trans rfl; have hfz27_0 := blk_frozen BK518.out 0; have hfz27_1 := blk_frozen BK518.out 1; have hfz27_2 := blk_frozen BK518.out 2; have hfz27_3 := blk_frozen BK518.out 3; have hfz27_4 := blk_frozen BK518.out 4; have hfz27_5 := blk_frozen BK518.out 5) | ((with_reducible refine gate_callee (f := 17) rfl ?_); refine goesL_ (some 18) rfl rfl Tryd.func17 (by kernel_rfl) rfl #[.agg #[.int .i64 x519000_1, .int .i64 x519001_1, .int .i64 x519002_1, .int .i64 x519003_1, .string x519004_1, .string x519005_1], .agg #[.int .i64 ((rd_T26 l0 x11_1).f0.f0), .int .i64 ((rd_T26 l0 x11_1).f0.f1), .int .i64 ((rd_T26 l0 x11_1).f0.f2), .int .i64 ((rd_T26 l0 x11_1).f0.f3), .string ((rd_T26 l0 x11_1).f1), .string ((rd_T26 l0 x11_1).f2)]] rfl (by (try simp only [List.map_toArray, List.map_cons, List.map_nil]); first | done | rfl | (simp only [List.length_drop, List.length_take]; rfl)) ?_; (with_reducible refine (weld_Join.calls k1 x519000_1 x519001_1 x519002_1 x519003_1 x519004_1 x519005_1 ((rd_T26 l0 x11_1).f0.f0) ((rd_T26 l0 x11_1).f0.f1) ((rd_T26 l0 x11_1).f0.f2) ((rd_T26 l0 x11_1).f0.f3) ((rd_T26 l0 x11_1).f1) ((rd_T26 l0 x11_1).f2) t521 t522 t523 t524 t525 t526 t527 _ ?side1 A7.out).mono ?_); (case side1 => first | (with_reducible exact HG.out) | exact Glob.Globs_below HG.out (by repeat (first | (with_reducible first | exact HB.out | apply below_alloc | apply pw_below_drewN | apply below_drew1 | refine below_set ?_ GE517.out | refine below_set ?_ GE518.out | refine below_set ?_ GE520.out) | exact HB.out))); rintro e w28 ⟨rfl, hb⟩; refine ⟨_, rfl, ?_⟩; have n0_ := Aside0.mk (blk_below (g := gb517) (o := .cells #[.int .i64 x518000_1, .int .i64 x518001_1, .int .i64 x518002_1, .int .i64 x518003_1, .string x518004_1, .string x518005_1] 26 (0, 0)) (by (with_reducible repeat (first | refine blk_drewN ?_ _ | refine blk_drew ?_ | refine blk_alloc ?_ _)); refine blk_far ?_ NB517_520.out _; (with_reducible repeat (first | refine blk_drewN ?_ _ | refine blk_drew ?_ | refine blk_alloc ?_ _)); refine blk_far ?_ NB517_520.out _; (with_reducible repeat (first | refine blk_drewN ?_ _ | refine blk_drew ?_ | refine blk_alloc ?_ _)); refine blk_far ?_ NB517_520.out _; (with_reducible repeat (first | refine blk_drewN ?_ _ | refine blk_drew ?_ | refine blk_alloc ?_ _)); refine blk_far ?_ NB517_520.out _; (with_reducible repeat (first | refine blk_drewN ?_ _ | refine blk_drew ?_ | refine blk_alloc ?_ _)); refine blk_far ?_ NB517_520.out _; (with_reducible repeat (first | refine blk_drewN ?_ _ | refine blk_drew ?_ | refine blk_alloc ?_ _)); refine blk_far ?_ NB517_520.out _; (with_reducible repeat (first | refine blk_drewN ?_ _ | refine blk_drew ?_ | refine blk_alloc ?_ _)); exact BK517.out) hb); have n1_ := Aside0.mk (blk_below (g := gb518) (o := .cells #[.int .i64 x519000_1, .int .i64 x519001_1, .int .i64 x519002_1, .int .i64 x519003_1, .string x519004_1, .string x519005_1] 26 (0, 0)) (by (with_reducible repeat (first | refine blk_drewN ?_ _ | refine blk_drew ?_ | refine blk_alloc ?_ _)); refine blk_far ?_ NB518_520.out _; (with_reducible repeat (first | refine blk_drewN ?_ _ | refine blk_drew ?_ | refine blk_alloc ?_ _)); refine blk_far ?_ NB518_520.out _; (with_reducible repeat (first | refine blk_drewN ?_ _ | refine blk_drew ?_ | refine blk_alloc ?_ _)); refine blk_far ?_ NB518_520.out _; (with_reducible repeat (first | refine blk_drewN ?_ _ | refine blk_drew ?_ | refine blk_alloc ?_ _)); refine blk_far ?_ NB518_520.out _; (with_reducible repeat (first | refine blk_drewN ?_ _ | refine blk_drew ?_ | refine blk_alloc ?_ _)); refine blk_far ?_ NB518_520.out _; (with_reducible repeat (first | refine blk_drewN ?_ _ | refine blk_drew ?_ | refine blk_alloc ?_ _)); refine blk_far ?_ NB518_520.out _; (with_reducible repeat (first | refine blk_drewN ?_ _ | refine blk_drew ?_ | refine blk_alloc ?_ _)); exact BK518.out) hb); have n2_ := Aside0.mk (blk_below (g := gb520) (o := .cells #[.int .i64 ((rd_T26 l0 x11_1).f0.f0), .int .i64 ((rd_T26 l0 x11_1).f0.f1), .int .i64 ((rd_T26 l0 x11_1).f0.f2), .int .i64 ((rd_T26 l0 x11_1).f0.f3), .string ((rd_T26 l0 x11_1).f1), .string ((rd_T26 l0 x11_1).f2)] 26 (0, 0)) (by (with_reducible repeat (first | refine blk_drewN ?_ _ | refine blk_drew ?_ | refine blk_alloc ?_ _)); refine blk_put (cs := #[.int .i64 ((rd_T26 l0 x11_1).f0.f0), .int .i64 ((rd_T26 l0 x11_1).f0.f1), .int .i64 ((rd_T26 l0 x11_1).f0.f2), .int .i64 ((rd_T26 l0 x11_1).f0.f3), .string ((rd_T26 l0 x11_1).f1), .string (⟨#[]⟩ : ByteArray)]) ?_ 5 _ rfl; (with_reducible repeat (first | refine blk_drewN ?_ _ | refine blk_drew ?_ | refine blk_alloc ?_ _)); refine blk_put (cs := #[.int .i64 ((rd_T26 l0 x11_1).f0.f0), .int .i64 ((rd_T26 l0 x11_1).f0.f1), .int .i64 ((rd_T26 l0 x11_1).f0.f2), .int .i64 ((rd_T26 l0 x11_1).f0.f3), .string (⟨#[]⟩ : ByteArray), .string (⟨#[]⟩ : ByteArray)]) ?_ 4 _ rfl; (with_reducible repeat (first | refine blk_drewN ?_ _ | refine blk_drew ?_ | refine blk_alloc ?_ _)); refine blk_put (cs := #[.int .i64 ((rd_T26 l0 x11_1).f0.f0), .int .i64 ((rd_T26 l0 x11_1).f0.f1), .int .i64 ((rd_T26 l0 x11_1).f0.f2), .int .i64 0, .string (⟨#[]⟩ : ByteArray), .string (⟨#[]⟩ : ByteArray)]) ?_ 3 _ rfl; (with_reducible repeat (first | refine blk_drewN ?_ _ | refine blk_drew ?_ | refine blk_alloc ?_ _)); refine blk_put (cs := #[.int .i64 ((rd_T26 l0 x11_1).f0.f0), .int .i64 ((rd_T26 l0 x11_1).f0.f1), .int .i64 0, .int .i64 0, .string (⟨#[]⟩ : ByteArray), .string (⟨#[]⟩ : ByteArray)]) ?_ 2 _ rfl; (with_reducible repeat (first | refine blk_drewN ?_ _ | refine blk_drew ?_ | refine blk_alloc ?_ _)); refine blk_put (cs := #[.int .i64 ((rd_T26 l0 x11_1).f0.f0), .int .i64 0, .int .i64 0, .int .i64 0, .string (⟨#[]⟩ : ByteArray), .string (⟨#[]⟩ : ByteArray)]) ?_ 1 _ rfl; (with_reducible repeat (first | refine blk_drewN ?_ _ | refine blk_drew ?_ | refine blk_alloc ?_ _)); refine blk_put (cs := #[.int .i64 0, .int .i64 0, .int .i64 0, .int .i64 0, .string (⟨#[]⟩ : ByteArray), .string (⟨#[]⟩ : ByteArray)]) ?_ 0 _ rfl; (with_reducible repeat (first | refine blk_drewN ?_ _ | refine blk_drew ?_ | refine blk_alloc ?_ _)); exact BK520.out) hb); have n3_ := Aside0.mk (below_step (by repeat (first | (with_reducible first | exact HB.out | apply below_alloc | apply pw_below_drewN | apply below_drew1 | refine below_set ?_ GE517.out | refine below_set ?_ GE518.out | refine below_set ?_ GE520.out) | exact HB.out)) hb); clear BK517; clear BK518; clear BK520; clear HB; have BK517 := n0_; have BK518 := n1_; have BK520 := n2_; have HB := n3_; clear n0_ n1_ n2_ n3_; (try clear hb); (try clear hb2); (try clear hk); (try clear hi)) | ((with_reducible refine gate_dst (N := 7) rfl ?_); refine box_event ?hg (N := 7) ?hd (cs := #[.int .i64 0, .int .i64 0, .int .i64 0, .int .i64 0, .string (⟨#[]⟩ : ByteArray), .string (⟨#[]⟩ : ByteArray)]) (t := 26) ?hr ?_; (case hd => rfl); (case hg => rfl); (case hr => first | (go_simp; done) | (go_simp; rfl)); intro gb528 hg w29 hbox hb; have n0_ := Aside0.mk (blk_below (g := gb517) (o := .cells #[.int .i64 x518000_1, .int .i64 x518001_1, .int .i64 x518002_1, .int .i64 x518003_1, .string x518004_1, .string x518005_1] 26 (0, 0)) (by (with_reducible repeat (first | refine blk_drewN ?_ _ | refine blk_drew ?_ | refine blk_alloc ?_ _)); exact BK517.out) hb); have n1_ := Aside0.mk (blk_below (g := gb518) (o := .cells #[.int .i64 x519000_1, .int .i64 x519001_1, .int .i64 x519002_1, .int .i64 x519003_1, .string x519004_1, .string x519005_1] 26 (0, 0)) (by (with_reducible repeat (first | refine blk_drewN ?_ _ | refine blk_drew ?_ | refine blk_alloc ?_ _)); exact BK518.out) hb); have n2_ := Aside0.mk (blk_below (g := gb520) (o := .cells #[.int .i64 ((rd_T26 l0 x11_1).f0.f0), .int .i64 ((rd_T26 l0 x11_1).f0.f1), .int .i64 ((rd_T26 l0 x11_1).f0.f2), .int .i64 ((rd_T26 l0 x11_1).f0.f3), .string ((rd_T26 l0 x11_1).f1), .string ((rd_T26 l0 x11_1).f2)] 26 (0, 0)) (by (with_reducible repeat (first | refine blk_drewN ?_ _ | refine blk_drew ?_ | refine blk_alloc ?_ _)); exact BK520.out) hb); have n3_ := Aside0.mk (below_step (by repeat (first | (with_reducible first | exact HB.out | apply below_alloc | apply pw_below_drewN | apply below_drew1 | refine below_set ?_ GE517.out | refine below_set ?_ GE518.out | refine below_set ?_ GE520.out) | exact HB.out)) hb); have n4_ := Aside0.mk (hbox); have n5_ := Aside0.mk ((by rw [hg]; exact (below_size (by repeat (first | (with_reducible first | exact HB.out | apply below_alloc | apply pw_below_drewN | apply below_drew1 | refine below_set ?_ GE517.out | refine below_set ?_ GE518.out | refine below_set ?_ GE520.out) | exact HB.out))) : w.heap.size ≤ gb528)); have n6_ := Aside0.mk ((by rw [hg]; exact (below_size (by repeat (first | (with_reducible first | exact HB.out | apply below_alloc | apply pw_below_drewN | apply below_drew1 | refine below_set ?_ GE517.out | refine below_set ?_ GE518.out | refine below_set ?_ GE520.out) | exact HB.out))) : w.heap.size ≤ gb528)); have n7_ := Aside0.mk ((by rw [hg]; exact Nat.ne_of_lt (blk_lt (g := gb517) (o := .cells #[.int .i64 x518000_1, .int .i64 x518001_1, .int .i64 x518002_1, .int .i64 x518003_1, .string x518004_1, .string x518005_1] 26 (0, 0)) (by (with_reducible repeat (first | refine blk_drewN ?_ _ | refine blk_drew ?_ | refine blk_alloc ?_ _)); exact BK517.out)) : gb517 ≠ gb528)); have n8_ := Aside0.mk ((by rw [hg]; exact Nat.ne_of_gt (blk_lt (g := gb517) (o := .cells #[.int .i64 x518000_1, .int .i64 x518001_1, .int .i64 x518002_1, .int .i64 x518003_1, .string x518004_1, .string x518005_1] 26 (0, 0)) (by (with_reducible repeat (first | refine blk_drewN ?_ _ | refine blk_drew ?_ | refine blk_alloc ?_ _)); exact BK517.out)) : gb528 ≠ gb517)); have n9_ := Aside0.mk ((by rw [hg]; exact Nat.ne_of_lt (blk_lt (g := gb518) (o := .cells #[.int .i64 x519000_1, .int .i64 x519001_1, .int .i64 x519002_1, .int .i64 x519003_1, .string x519004_1, .string x519005_1] 26 (0, 0)) (by (with_reducible repeat (first | refine blk_drewN ?_ _ | refine blk_drew ?_ | refine blk_alloc ?_ _)); exact BK518.out)) : gb518 ≠ gb528)); have n10_ := Aside0.mk ((by rw [hg]; exact Nat.ne_of_gt (blk_lt (g := gb518) (o := .cells #[.int .i64 x519000_1, .int .i64 x519001_1, .int .i64 x519002_1, .int .i64 x519003_1, .string x519004_1, .string x519005_1] 26 (0, 0)) (by (with_reducible repeat (first | refine blk_drewN ?_ _ | refine blk_drew ?_ | refine blk_alloc ?_ _)); exact BK518.out)) : gb528 ≠ gb518)); have n11_ := Aside0.mk ((by rw [hg]; exact Nat.ne_of_lt (blk_lt (g := gb520) (o := .cells #[.int .i64 ((rd_T26 l0 x11_1).f0.f0), .int .i64 ((rd_T26 l0 x11_1).f0.f1), .int .i64 ((rd_T26 l0 x11_1).f0.f2), .int .i64 ((rd_T26 l0 x11_1).f0.f3), .string ((rd_T26 l0 x11_1).f1), .string ((rd_T26 l0 x11_1).f2)] 26 (0, 0)) (by (with_reducible repeat (first | refine blk_drewN ?_ _ | refine blk_drew ?_ | refine blk_alloc ?_ _)); exact BK520.out)) : gb520 ≠ gb528)); have n12_ := Aside0.mk ((by rw [hg]; exact Nat.ne_of_gt (blk_lt (g := gb520) (o := .cells #[.int .i64 ((rd_T26 l0 x11_1).f0.f0), .int .i64 ((rd_T26 l0 x11_1).f0.f1), .int .i64 ((rd_T26 l0 x11_1).f0.f2), .int .i64 ((rd_T26 l0 x11_1).f0.f3), .string ((rd_T26 l0 x11_1).f1), .string ((rd_T26 l0 x11_1).f2)] 26 (0, 0)) (by (with_reducible repeat (first | refine blk_drewN ?_ _ | refine blk_drew ?_ | refine blk_alloc ?_ _)); exact BK520.out)) : gb528 ≠ gb520)); clear BK517; clear BK518; clear BK520; clear HB; have BK517 := n0_; have BK518 := n1_; have BK520 := n2_; have HB := n3_; have BK528 := n4_; have GW528 := n5_; have GE528 := n6_; have NB517_528 := n7_; have NB528_517 := n8_; have NB518_528 := n9_; have NB528_518 := n10_; have NB520_528 := n11_; have NB528_520 := n12_; clear n0_ n1_ n2_ n3_ n4_ n5_ n6_ n7_ n8_ n9_ n10_ n11_ n12_; clear hb hbox hg; have hnb30 := NB528_517.out; have hnc30 := NB517_528.out; have hnb31 := NB528_518.out; have hnc31 := NB518_528.out; have hnb32 := NB528_520.out; have hnc32 := NB520_528.out; have hcz33_0 : w29.cell? ⟨gb528, 0, none⟩ = some (.int .i64 0) := (blk_cell BK528.out 0).trans rfl; have hcz33_1 : w29.cell? ⟨gb528, 1, none⟩ = some (.int .i64 0) := (blk_cell BK528.out 1).trans rfl; have hcz33_2 : w29.cell? ⟨gb528, 2, none⟩ = some (.int .i64 0) := (blk_cell BK528.out 2).trans rfl; have hcz33_3 : w29.cell? ⟨gb528, 3, none⟩ = some (.int .i64 0) := (blk_cell BK528.out 3).trans rfl; have hcz33_4 : w29.cell? ⟨gb528, 4, none⟩ = some (.string (⟨#[]⟩ : ByteArray)) := (blk_cell BK528.out 4).trans rfl; have hcz33_5 : w29.cell? ⟨gb528, 5, none⟩ = some (.string (⟨#[]⟩ : ByteArray)) := (blk_cell BK528.out 5).trans rfl; have hfz33_0 := blk_frozen BK528.out 0; have hfz33_1 := blk_frozen BK528.out 1; have hfz33_2 := blk_frozen BK528.out 2; have hfz33_3 := blk_frozen BK528.out 3; have hfz33_4 := blk_frozen BK528.out 4; have hfz33_5 := blk_frozen BK528.out 5; have hcz34_0 : w29.cell? ⟨gb517, 0, none⟩ = some (.int .i64 x518000_1) := (blk_cell BK517.out 0).trans rfl; have hcz34_1 : w29.cell? ⟨gb517, 1, none⟩ = some (.int .i64 x518001_1) := (blk_cell BK517.out 1).trans rfl; have hcz34_2 : w29.cell? ⟨gb517, 2, none⟩ = some (.int .i64 x518002_1) := (blk_cell BK517.out 2).trans rfl; have hcz34_3 : w29.cell? ⟨gb517, 3, none⟩ = some (.int .i64 x518003_1) := (blk_cell BK517.out 3).trans rfl; have hcz34_4 : w29.cell? ⟨gb517, 4, none⟩ = some (.string x518004_1) := (blk_cell BK517.out 4).trans rfl; have hcz34_5 : w29.cell? ⟨gb517, 5, none⟩ = some (.string x518005_1) := (blk_cell BK517.out 5).trans rfl; have hfz34_0 := blk_frozen BK517.out 0; have hfz34_1 := blk_frozen BK517.out 1; have hfz34_2 := blk_frozen BK517.out 2; have hfz34_3 := blk_frozen BK517.out 3; have hfz34_4 := blk_frozen BK517.out 4; have hfz34_5 := blk_frozen BK517.out 5))
       refine bodyPost_ret (results_ct rfl _ _ gb517 26 #[.int .i64 0, .int .i64 0, .int .i64 0, .int .i64 0, .string (⟨#[]⟩ : ByteArray), .string (⟨#[]⟩ : ByteArray)] (0, 0) _ rfl (by (with_reducible repeat (first | refine blk_drewN ?_ _ | refine blk_drew ?_ | refine blk_alloc ?_ _)); refine blk_put (cs := #[.int .i64 0, .int .i64 0, .int .i64 0, .int .i64 0, .string (⟨#[]⟩ : ByteArray), .string x518005_1]) ?_ 5 _ rfl; (with_reducible repeat (first | refine blk_drewN ?_ _ | refine blk_drew ?_ | refine blk_alloc ?_ _)); refine blk_put (cs := #[.int .i64 0, .int .i64 0, .int .i64 0, .int .i64 0, .string x518004_1, .string x518005_1]) ?_ 4 _ rfl; (with_reducible repeat (first | refine blk_drewN ?_ _ | refine blk_drew ?_ | refine blk_alloc ?_ _)); refine blk_put (cs := #[.int .i64 0, .int .i64 0, .int .i64 0, .int .i64 x518003_1, .string x518004_1, .string x518005_1]) ?_ 3 _ rfl; (with_reducible repeat (first | refine blk_drewN ?_ _ | refine blk_drew ?_ | refine blk_alloc ?_ _)); refine blk_put (cs := #[.int .i64 0, .int .i64 0, .int .i64 x518002_1, .int .i64 x518003_1, .string x518004_1, .string x518005_1]) ?_ 2 _ rfl; (with_reducible repeat (first | refine blk_drewN ?_ _ | refine blk_drew ?_ | refine blk_alloc ?_ _)); refine blk_put (cs := #[.int .i64 0, .int .i64 x518001_1, .int .i64 x518002_1, .int .i64 x518003_1, .string x518004_1, .string x518005_1]) ?_ 1 _ rfl; (with_reducible repeat (first | refine blk_drewN ?_ _ | refine blk_drew ?_ | refine blk_alloc ?_ _)); refine blk_put (cs := #[.int .i64 x518000_1, .int .i64 x518001_1, .int .i64 x518002_1, .int .i64 x518003_1, .string x518004_1, .string x518005_1]) ?_ 0 _ rfl; (with_reducible repeat (first | refine blk_drewN ?_ _ | refine blk_drew ?_ | refine blk_alloc ?_ _)); refine blk_far ?_ NB517_528.out _; (with_reducible repeat (first | refine blk_drewN ?_ _ | refine blk_drew ?_ | refine blk_alloc ?_ _)); refine blk_far ?_ NB517_528.out _; (with_reducible repeat (first | refine blk_drewN ?_ _ | refine blk_drew ?_ | refine blk_alloc ?_ _)); refine blk_far ?_ NB517_528.out _; (with_reducible repeat (first | refine blk_drewN ?_ _ | refine blk_drew ?_ | refine blk_alloc ?_ _)); refine blk_far ?_ NB517_528.out _; (with_reducible repeat (first | refine blk_drewN ?_ _ | refine blk_drew ?_ | refine blk_alloc ?_ _)); refine blk_far ?_ NB517_528.out _; (with_reducible repeat (first | refine blk_drewN ?_ _ | refine blk_drew ?_ | refine blk_alloc ?_ _)); refine blk_far ?_ NB517_528.out _; (with_reducible repeat (first | refine blk_drewN ?_ _ | refine blk_drew ?_ | refine blk_alloc ?_ _)); exact BK517.out) Tryd.underlying26 rfl (by kernel_rfl)) rfl ?_
       exact ⟨by first | rfl | (simp [errW_none, errW_some] <;> rfl) | (simp [*, errW_none, errW_some] <;> rfl), by repeat (first | (with_reducible first | exact HB.out | apply below_alloc | apply pw_below_drewN | apply below_drew1 | refine below_set ?_ GE517.out | refine below_set ?_ GE518.out | refine below_set ?_ GE520.out | refine below_set ?_ GE528.out) | exact HB.out)⟩
     ·rw [if_neg c6] at H
      exact absurd H (by simp)
    ·rw [if_neg c5] at H
     exact absurd H (by simp)
   ·rw [if_neg c4] at H
    have c4b0 : decide (x11_1 < (l0.length : Int)) = false := decide_eq_false c4
    clear c4
    simp only [Option.some.injEq, Prod.mk.injEq] at H
    obtain ⟨rfl, rfl, rfl, rfl, rfl, rfl, rfl⟩ := H
    have hnb35 := NB518_517.out
    have hnc35 := NB517_518.out
    have hcz36_0 : wr.cell? ⟨gb518, 0, none⟩ = some (.int .i64 x519000_1) := (blk_cell BK518.out 0).trans rfl
    have hcz36_1 : wr.cell? ⟨gb518, 1, none⟩ = some (.int .i64 x519001_1) := (blk_cell BK518.out 1).trans rfl
    have hcz36_2 : wr.cell? ⟨gb518, 2, none⟩ = some (.int .i64 x519002_1) := (blk_cell BK518.out 2).trans rfl
    have hcz36_3 : wr.cell? ⟨gb518, 3, none⟩ = some (.int .i64 x519003_1) := (blk_cell BK518.out 3).trans rfl
    have hcz36_4 : wr.cell? ⟨gb518, 4, none⟩ = some (.string x519004_1) := (blk_cell BK518.out 4).trans rfl
    have hcz36_5 : wr.cell? ⟨gb518, 5, none⟩ = some (.string x519005_1) := (blk_cell BK518.out 5).trans rfl
    have hfz36_0 := blk_frozen BK518.out 0
    have hfz36_1 := blk_frozen BK518.out 1
    have hfz36_2 := blk_frozen BK518.out 2
    have hfz36_3 := blk_frozen BK518.out 3
    have hfz36_4 := blk_frozen BK518.out 4
    have hfz36_5 := blk_frozen BK518.out 5
    have hcz37_0 : wr.cell? ⟨gb517, 0, none⟩ = some (.int .i64 x518000_1) := (blk_cell BK517.out 0).trans rfl
    have hcz37_1 : wr.cell? ⟨gb517, 1, none⟩ = some (.int .i64 x518001_1) := (blk_cell BK517.out 1).trans rfl
    have hcz37_2 : wr.cell? ⟨gb517, 2, none⟩ = some (.int .i64 x518002_1) := (blk_cell BK517.out 2).trans rfl
    have hcz37_3 : wr.cell? ⟨gb517, 3, none⟩ = some (.int .i64 x518003_1) := (blk_cell BK517.out 3).trans rfl
    have hcz37_4 : wr.cell? ⟨gb517, 4, none⟩ = some (.string x518004_1) := (blk_cell BK517.out 4).trans rfl
    have hcz37_5 : wr.cell? ⟨gb517, 5, none⟩ = some (.string x518005_1) := (blk_cell BK517.out 5).trans rfl
    have hfz37_0 := blk_frozen BK517.out 0
    have hfz37_1 := blk_frozen BK517.out 1
    have hfz37_2 := blk_frozen BK517.out 2
    have hfz37_3 := blk_frozen BK517.out 3
    have hfz37_4 := blk_frozen BK517.out 4
    have hfz37_5 := blk_frozen BK517.out 5
    go_wp2
    refine bodyPost_ret (results_ct rfl _ _ gb517 26 #[.int .i64 x519000_1, .int .i64 x519001_1, .int .i64 x519002_1, .int .i64 x519003_1, .string x519004_1, .string x519005_1] (0, 0) _ rfl (by (with_reducible repeat (first | refine blk_drewN ?_ _ | refine blk_drew ?_ | refine blk_alloc ?_ _)); refine blk_put (cs := #[.int .i64 x519000_1, .int .i64 x519001_1, .int .i64 x519002_1, .int .i64 x519003_1, .string x519004_1, .string x518005_1]) ?_ 5 _ rfl; (with_reducible repeat (first | refine blk_drewN ?_ _ | refine blk_drew ?_ | refine blk_alloc ?_ _)); refine blk_put (cs := #[.int .i64 x519000_1, .int .i64 x519001_1, .int .i64 x519002_1, .int .i64 x519003_1, .string x518004_1, .string x518005_1]) ?_ 4 _ rfl; (with_reducible repeat (first | refine blk_drewN ?_ _ | refine blk_drew ?_ | refine blk_alloc ?_ _)); refine blk_put (cs := #[.int .i64 x519000_1, .int .i64 x519001_1, .int .i64 x519002_1, .int .i64 x518003_1, .string x518004_1, .string x518005_1]) ?_ 3 _ rfl; (with_reducible repeat (first | refine blk_drewN ?_ _ | refine blk_drew ?_ | refine blk_alloc ?_ _)); refine blk_put (cs := #[.int .i64 x519000_1, .int .i64 x519001_1, .int .i64 x518002_1, .int .i64 x518003_1, .string x518004_1, .string x518005_1]) ?_ 2 _ rfl; (with_reducible repeat (first | refine blk_drewN ?_ _ | refine blk_drew ?_ | refine blk_alloc ?_ _)); refine blk_put (cs := #[.int .i64 x519000_1, .int .i64 x518001_1, .int .i64 x518002_1, .int .i64 x518003_1, .string x518004_1, .string x518005_1]) ?_ 1 _ rfl; (with_reducible repeat (first | refine blk_drewN ?_ _ | refine blk_drew ?_ | refine blk_alloc ?_ _)); refine blk_put (cs := #[.int .i64 x518000_1, .int .i64 x518001_1, .int .i64 x518002_1, .int .i64 x518003_1, .string x518004_1, .string x518005_1]) ?_ 0 _ rfl; (with_reducible repeat (first | refine blk_drewN ?_ _ | refine blk_drew ?_ | refine blk_alloc ?_ _)); exact BK517.out) Tryd.underlying26 rfl (by kernel_rfl)) rfl ?_
    exact ⟨by first | rfl | (simp [errW_none, errW_some] <;> rfl) | (simp [*, errW_none, errW_some] <;> rfl), by repeat (first | (with_reducible first | exact HB.out | apply below_alloc | apply pw_below_drewN | apply below_drew1 | refine below_set ?_ GE517.out | refine below_set ?_ GE518.out) | exact HB.out)⟩
end Go.Proofs.YtaojbcplmdjfnaaDoor.Pr
