/- Part 2 of the lemmas on which the card weldSum_card stands (its sentence and conditions stand in the last text). Conditions: as each lemma says. -/
import Derived.Test.YtaojbcplmdjfnaaDoorKSum1
import Derived.Deep.Matrix
import Derived.Deep.Strs
import Derived.Lib.SmallJoins
import Derived.OpenShut
import Derived.ProofKit
import Derived.SizedLaws
import Derived.Test.YtaojbcplmdjfnaaDoorRows
import Derived.Laws.BytesArg
import Derived.Laws.Strings
import Derived.Lib.TrimUEq
namespace Go.Proofs.YtaojbcplmdjfnaaDoor.Pr
open Go.RowKit Go.Proofs.YtaojbcplmdjfnaaDoorW.PrintWords Go.Proofs.YtaojbcplmdjfnaaDoorW.PrintLast Go.Proofs.YtaojbcplmdjfnaaDoorW.PrintMore
attribute [local go_sem] max2_int min2_int max_two min_two max_three min_three max_four min_four   -- for this text's walks alone
set_option linter.unusedVariables false
set_option linter.unusedSimpArgs false
mutual
def weld_both.j0 : Nat → Bool → Int → Int → Int → Int → ByteArray → ByteArray → Int → Int → Int → Int → ByteArray → ByteArray → Option (Int × Int × Int × Int × ByteArray × ByteArray × Int × Int × Int × Int × Int)
 | 0, _, _, _, _, _, _, _, _, _, _, _, _, _ => none
 | k + 1, x9, x146000, x146001, x146002, x146003, x146004, x146005, x147000, x147001, x147002, x147003, x147004, x147005 => if x9 = true then (some (0, 0, 0, 0, (⟨#[]⟩ : ByteArray), (⟨#[]⟩ : ByteArray), 0, 0, 0, 0, 50)) else (if (wrap64 (x146000 + x147000)) > 268435456 then (some (0, 0, 0, 0, (⟨#[]⟩ : ByteArray), (⟨#[]⟩ : ByteArray), 0, 0, 0, 0, 5)) else ((weld_seam.f k x146000 x146001 x146002 x146003 x146004 x146005 x147000 x147001 x147002 x147003 x147004 x147005).bind fun bt151 => ((weld_sum.f x146000 x146001 x146002 x146003 x147000 x147001 x147002 x147003 1).bind fun bt156 => ((weld_sum.f bt156.1 bt156.2.1 bt156.2.2.1 bt156.2.2.2 bt151.1 bt151.2.1 bt151.2.2.1 bt151.2.2.2 (-1)).bind fun bt160 => (if x146000 < 3 then (if x146004.size + x147004.size ≤ 9223372036854775807 then ((weld_head.f (x146004 ++ x147004)).bind fun t165 => (weld_both.j1 k x146000 x146001 x146002 x146003 x146004 x146005 x147000 x147001 x147002 x147003 x147004 x147005 bt151.1 bt151.2.1 bt151.2.2.1 bt151.2.2.2 bt160.1 bt160.2.1 bt160.2.2.1 bt160.2.2.2 t165 x147005)) else (none)) else (weld_both.j1 k x146000 x146001 x146002 x146003 x146004 x146005 x147000 x147001 x147002 x147003 x147004 x147005 bt151.1 bt151.2.1 bt151.2.2.1 bt151.2.2.2 bt160.1 bt160.2.1 bt160.2.2.1 bt160.2.2.2 x146004 x147005))))))
def weld_both.j1 : Nat → Int → Int → Int → Int → ByteArray → ByteArray → Int → Int → Int → Int → ByteArray → ByteArray → Int → Int → Int → Int → Int → Int → Int → Int → ByteArray → ByteArray → Option (Int × Int × Int × Int × ByteArray × ByteArray × Int × Int × Int × Int × Int)
 | 0, _, _, _, _, _, _, _, _, _, _, _, _, _, _, _, _, _, _, _, _, _, _ => none
 | k + 1, x146000, x146001, x146002, x146003, x146004, x146005, x147000, x147001, x147002, x147003, x147004, x147005, x156000, x156001, x156002, x156003, x165000, x165001, x165002, x165003, x165004, x165005 => if x147000 < 3 then (if x146005.size + x147005.size ≤ 9223372036854775807 then ((weld_tail.f (x146005 ++ x147005)).bind fun t166 => ((weld_Valid.f k x165000 x165001 x165002 x165003 x165004 t166).bind fun t167 => (if t167 = true then (some (x165000, x165001, x165002, x165003, x165004, t166, x156000, x156001, x156002, x156003, 0)) else (some (0, 0, 0, 0, (⟨#[]⟩ : ByteArray), (⟨#[]⟩ : ByteArray), 0, 0, 0, 0, 50))))) else (none)) else ((weld_Valid.f k x165000 x165001 x165002 x165003 x165004 x165005).bind fun t168 => (if t168 = true then (some (x165000, x165001, x165002, x165003, x165004, x165005, x156000, x156001, x156002, x156003, 0)) else (some (0, 0, 0, 0, (⟨#[]⟩ : ByteArray), (⟨#[]⟩ : ByteArray), 0, 0, 0, 0, 50))))
end
def weld_both.f (k : Nat) (a0_0 : Int) (a0_1 : Int) (a0_2 : Int) (a0_3 : Int) (a0_4 : ByteArray) (a0_5 : ByteArray) (a1_0 : Int) (a1_1 : Int) (a1_2 : Int) (a1_3 : Int) (a1_4 : ByteArray) (a1_5 : ByteArray) : Option (Int × Int × Int × Int × ByteArray × ByteArray × Int × Int × Int × Int × Int) := (weld_Valid.f k a0_0 a0_1 a0_2 a0_3 a0_4 a0_5).bind fun t149 => (if t149 = true then ((weld_Valid.f k a1_0 a1_1 a1_2 a1_3 a1_4 a1_5).bind fun t150 => (weld_both.j0 k (!t150) a0_0 a0_1 a0_2 a0_3 a0_4 a0_5 a1_0 a1_1 a1_2 a1_3 a1_4 a1_5)) else (weld_both.j0 k true a0_0 a0_1 a0_2 a0_3 a0_4 a0_5 a1_0 a1_1 a1_2 a1_3 a1_4 a1_5))
def weld_both.T6 : Bool × List (List Nat × List Nat) := (true, [([], []), ([0], [0]), ([], []), ([2], [2]), ([1, 3], [1, 3]), ([], []), ([4, 5, 4], [4, 5]), ([], []), ([7], [7]), ([], []), ([9], [9]), ([6, 8, 10], [6, 8, 10]), ([], []), ([12, 11, 6, 0, 1, 2, 3, 4, 5, 6, 7, 8, 9, 10, 11, 12], [11, 12])])
def weld_both.B6 : List Nat := [0, 1, 0, 4, 15, 0, 63, 0, 128, 0, 512, 2047, 0, 8191]
theorem weld_both.tab6 : rtab .any (opsOf Tryd.f32 6) = weld_both.T6 := by kernel_rfl
theorem weld_both.bits6 : waitsOk weld_both.T6.2 weld_both.B6 = true := by kernel_rfl
set_option maxHeartbeats 8000000 in
set_option maxRecDepth 100000 in
theorem weld_both.calls (k : Nat) (a0_0 : Int) (a0_1 : Int) (a0_2 : Int) (a0_3 : Int) (a0_4 : ByteArray) (a0_5 : ByteArray) (a1_0 : Int) (a1_1 : Int) (a1_2 : Int) (a1_3 : Int) (a1_4 : ByteArray) (a1_5 : ByteArray) (r1 : Int) (r2 : Int) (r3 : Int) (r4 : Int) (r5 : ByteArray) (r6 : ByteArray) (r7 : Int) (r8 : Int) (r9 : Int) (r10 : Int) (r11 : Int) (w : World) (hG : Glob.Globs w) (h : weld_both.f k a0_0 a0_1 a0_2 a0_3 a0_4 a0_5 a1_0 a1_1 a1_2 a1_3 a1_4 a1_5 = some (r1, r2, r3, r4, r5, r6, r7, r8, r9, r10, r11)) :
  Calls Tryd.prog 32 #[.agg #[.int .i64 a0_0, .int .i64 a0_1, .int .i64 a0_2, .int .i64 a0_3, .string a0_4, .string a0_5], .agg #[.int .i64 a1_0, .int .i64 a1_1, .int .i64 a1_2, .int .i64 a1_3, .string a1_4, .string a1_5]] w fun e w' => e = .returned (.tuple #[.agg #[.int .i64 r1, .int .i64 r2, .int .i64 r3, .int .i64 r4, .string r5, .string r6], .agg #[.int .i64 r7, .int .i64 r8, .int .i64 r9, .int .i64 r10], .int .i64 r11]) ∧ Below w.heap.size w w' := by
 have hu26 := Tryd.underlying26
 have hu24 := Tryd.underlying24
 have HG := Aside0.mk hG; clear hG
 have HB := Aside0.mk (Below.refl w.heap.size w)
 have H : ((weld_Valid.f k a0_0 a0_1 a0_2 a0_3 a0_4 a0_5).bind fun t149 => (if t149 = true then ((weld_Valid.f k a1_0 a1_1 a1_2 a1_3 a1_4 a1_5).bind fun t150 => (weld_both.j0 k (!t150) a0_0 a0_1 a0_2 a0_3 a0_4 a0_5 a1_0 a1_1 a1_2 a1_3 a1_4 a1_5)) else (weld_both.j0 k true a0_0 a0_1 a0_2 a0_3 a0_4 a0_5 a1_0 a1_1 a1_2 a1_3 a1_4 a1_5))) = some (r1, r2, r3, r4, r5, r6, r7, r8, r9, r10, r11) := h
 clear h; have HC3 := Aside0.mk H; clear H
 go_enter Tryd.func32, Tryd.ntmps32
 go_upto_region 1 with (first | ((with_reducible refine gate_dst (N := 2) rfl ?_); refine box_event ?hg (N := 2) ?hd (cs := #[.int .i64 a0_0, .int .i64 a0_1, .int .i64 a0_2, .int .i64 a0_3, .string a0_4, .string a0_5]) (t := 26) ?hr ?_; (case hd => rfl); (case hg => rfl); (case hr => first | (go_simp; done) | (go_simp; rfl)); intro gb145 hg w4 hbox hb; have BK145 := Aside0.mk (hbox); have GW145 := Aside0.mk ((by rw [hg]; exact (below_size (bl HB.out)) : w.heap.size ≤ gb145)); have GE145 := GW145; replace HB := Aside0.mk (below_step (bl HB.out) hb); clear hb hbox hg) | ((with_reducible refine gate_dst (N := 3) rfl ?_); refine box_event ?hg (N := 3) ?hd (cs := #[.int .i64 a1_0, .int .i64 a1_1, .int .i64 a1_2, .int .i64 a1_3, .string a1_4, .string a1_5]) (t := 26) ?hr ?_; (case hd => rfl); (case hg => rfl); (case hr => first | (go_simp; done) | (go_simp; rfl)); intro gb146 hg w5 hbox hb; have BK146 := Aside0.mk (hbox); have GW146 := Aside0.mk ((by rw [hg]; exact (below_size (by repeat (first | (with_reducible first | exact HB.out | apply below_alloc | apply pw_below_drewN | apply below_drew1 | refine below_set ?_ GE145.out) | exact HB.out))) : w.heap.size ≤ gb146)); have GE146 := GW146; replace HB := Aside0.mk (below_step (by repeat (first | (with_reducible first | exact HB.out | apply below_alloc | apply pw_below_drewN | apply below_drew1 | refine below_set ?_ GE145.out) | exact HB.out)) hb); obtain ⟨NB145_146, NB146_145⟩ := nbp hg (pl BK145.out); replace BK145 := Aside0.mk (blk_below (pl BK145.out) hb); clear hb hbox hg) | ((with_reducible refine gate_dst (N := 4) rfl ?_); refine box_event ?hg (N := 4) ?hd (cs := #[.int .i64 0, .int .i64 0, .int .i64 0, .int .i64 0, .string (⟨#[]⟩ : ByteArray), .string (⟨#[]⟩ : ByteArray)]) (t := 26) ?hr ?_; (case hd => rfl); (case hg => rfl); (case hr => first | (go_simp; done) | (go_simp; rfl)); intro gb147 hg w6 hbox hb; have BK147 := Aside0.mk (hbox); have GW147 := Aside0.mk ((by rw [hg]; exact (below_size (by repeat (first | (with_reducible first | exact HB.out | apply below_alloc | apply pw_below_drewN | apply below_drew1 | refine below_set ?_ GE145.out | refine below_set ?_ GE146.out) | exact HB.out))) : w.heap.size ≤ gb147)); have GE147 := GW147; replace HB := Aside0.mk (below_step (by repeat (first | (with_reducible first | exact HB.out | apply below_alloc | apply pw_below_drewN | apply below_drew1 | refine below_set ?_ GE145.out | refine below_set ?_ GE146.out) | exact HB.out)) hb); obtain ⟨NB145_147, NB147_145⟩ := nbp hg (pl BK145.out); replace BK145 := Aside0.mk (blk_below (pl BK145.out) hb); obtain ⟨NB146_147, NB147_146⟩ := nbp hg (pl BK146.out); replace BK146 := Aside0.mk (blk_below (pl BK146.out) hb); clear hb hbox hg) | ((with_reducible refine gate_dst (N := 5) rfl ?_); refine box_event ?hg (N := 5) ?hd (cs := #[.int .i64 0, .int .i64 0, .int .i64 0, .int .i64 0]) (t := 24) ?hr ?_; (case hd => rfl); (case hg => rfl); (case hr => first | (go_simp; done) | (go_simp; rfl)); intro gb148 hg w7 hbox hb; have BK148 := Aside0.mk (hbox); have GW148 := Aside0.mk ((by rw [hg]; exact (below_size (by repeat (first | (with_reducible first | exact HB.out | apply below_alloc | apply pw_below_drewN | apply below_drew1 | refine below_set ?_ GE145.out | refine below_set ?_ GE146.out | refine below_set ?_ GE147.out) | exact HB.out))) : w.heap.size ≤ gb148)); have GE148 := GW148; replace HB := Aside0.mk (below_step (by repeat (first | (with_reducible first | exact HB.out | apply below_alloc | apply pw_below_drewN | apply below_drew1 | refine below_set ?_ GE145.out | refine below_set ?_ GE146.out | refine below_set ?_ GE147.out) | exact HB.out)) hb); obtain ⟨NB145_148, NB148_145⟩ := nbp hg (pl BK145.out); replace BK145 := Aside0.mk (blk_below (pl BK145.out) hb); obtain ⟨NB146_148, NB148_146⟩ := nbp hg (pl BK146.out); replace BK146 := Aside0.mk (blk_below (pl BK146.out) hb); obtain ⟨NB147_148, NB148_147⟩ := nbp hg (pl BK147.out); replace BK147 := Aside0.mk (blk_below (pl BK147.out) hb); clear hb hbox hg))
 (try simp only [Act.put, List.setIfInBounds_toArray, List.set_cons_zero, List.set_cons_succ])
 go_cut [9] (fun v9 wc => ∃ (kq : Nat) (x9_2 : Bool), v9 = .bool x9_2 ∧ Aside0 (weld_both.j0 kq x9_2 a0_0 a0_1 a0_2 a0_3 a0_4 a0_5 a1_0 a1_1 a1_2 a1_3 a1_4 a1_5 = some (r1, r2, r3, r4, r5, r6, r7, r8, r9, r10, r11)) ∧ Aside0 (kq ≤ k) ∧ Aside0 (wc.heap[gb145]? = some (.cells #[.int .i64 a0_0, .int .i64 a0_1, .int .i64 a0_2, .int .i64 a0_3, .string a0_4, .string a0_5] 26 (0, 0))) ∧ Aside0 (wc.heap[gb146]? = some (.cells #[.int .i64 a1_0, .int .i64 a1_1, .int .i64 a1_2, .int .i64 a1_3, .string a1_4, .string a1_5] 26 (0, 0))) ∧ Aside0 (wc.heap[gb147]? = some (.cells #[.int .i64 0, .int .i64 0, .int .i64 0, .int .i64 0, .string (⟨#[]⟩ : ByteArray), .string (⟨#[]⟩ : ByteArray)] 26 (0, 0))) ∧ Aside0 (wc.heap[gb148]? = some (.cells #[.int .i64 0, .int .i64 0, .int .i64 0, .int .i64 0] 24 (0, 0))) ∧ Aside0 (Below w.heap.size w wc))
 case first =>
  have H := HC3.out; clear HC3
  replace H := Option.bind_eq_some_iff.mp H
  obtain ⟨t149, A80, H⟩ := H
  replace H : (if t149 = true then ((weld_Valid.f k a1_0 a1_1 a1_2 a1_3 a1_4 a1_5).bind fun t150 => (weld_both.j0 k (!t150) a0_0 a0_1 a0_2 a0_3 a0_4 a0_5 a1_0 a1_1 a1_2 a1_3 a1_4 a1_5)) else (weld_both.j0 k true a0_0 a0_1 a0_2 a0_3 a0_4 a0_5 a1_0 a1_1 a1_2 a1_3 a1_4 a1_5)) = some (r1, r2, r3, r4, r5, r6, r7, r8, r9, r10, r11) := H
  have A8 := Aside0.mk A80; clear A80
  by_cases c9 : t149 = true
  ·subst c9
   have H1 : ((weld_Valid.f k a1_0 a1_1 a1_2 a1_3 a1_4 a1_5).bind fun t150 => (weld_both.j0 k (!t150) a0_0 a0_1 a0_2 a0_3 a0_4 a0_5 a1_0 a1_1 a1_2 a1_3 a1_4 a1_5)) = some (r1, r2, r3, r4, r5, r6, r7, r8, r9, r10, r11) := by rw [if_pos rfl] at H; exact H
   clear H; have H := H1; clear H1
   replace H := Option.bind_eq_some_iff.mp H
   obtain ⟨t150, A100, H⟩ := H
   replace H : (weld_both.j0 k (!t150) a0_0 a0_1 a0_2 a0_3 a0_4 a0_5 a1_0 a1_1 a1_2 a1_3 a1_4 a1_5) = some (r1, r2, r3, r4, r5, r6, r7, r8, r9, r10, r11) := H
   have A10 := Aside0.mk A100; clear A100; have H' := Aside0.mk H; clear H; have hnb11 := NB145_146.out; have hnc11 := NB146_145.out; have hnb12 := NB145_147.out; have hnc12 := NB147_145.out; have hnb13 := NB145_148.out; have hnc13 := NB148_145.out; obtain ⟨hcz14_0, hcz14_1, hcz14_2, hcz14_3, hcz14_4, hcz14_5⟩ := c6 BK145.out; obtain ⟨hfz14_0, hfz14_1, hfz14_2, hfz14_3, hfz14_4, hfz14_5⟩ := f6 BK145.out
   go_wp2_with (first | ((with_reducible refine gate_callee (f := 11) rfl ?_); refine goesL_ (some 11) rfl rfl Tryd.func11 (by kernel_rfl) rfl #[.agg #[.int .i64 a0_0, .int .i64 a0_1, .int .i64 a0_2, .int .i64 a0_3, .string a0_4, .string a0_5]] rfl (by (try simp only [List.map_toArray, List.map_cons, List.map_nil]); first | done | rfl | (simp only [List.length_drop, List.length_take]; rfl)) ?_; (with_reducible refine (weld_Valid.calls k a0_0 a0_1 a0_2 a0_3 a0_4 a0_5 true _ ?side1 A8.out).mono ?_); (case side1 => first | (with_reducible exact HG.out) | exact Glob.Globs_below HG.out (by repeat (first | (with_reducible first | exact HB.out | apply below_alloc | apply pw_below_drewN | apply below_drew1 | refine below_set ?_ GE145.out | refine below_set ?_ GE146.out | refine below_set ?_ GE147.out | refine below_set ?_ GE148.out) | exact HB.out))); rintro e w15 ⟨rfl, hb⟩; refine ⟨_, rfl, ?_⟩; replace BK145 := Aside0.mk (blk_below (pl BK145.out) hb); replace BK146 := Aside0.mk (blk_below (pl BK146.out) hb); replace BK147 := Aside0.mk (blk_below (pl BK147.out) hb); replace BK148 := Aside0.mk (blk_below (pl BK148.out) hb); replace HB := Aside0.mk (below_step (by repeat (first | (with_reducible first | exact HB.out | apply below_alloc | apply pw_below_drewN | apply below_drew1 | refine below_set ?_ GE145.out | refine below_set ?_ GE146.out | refine below_set ?_ GE147.out | refine below_set ?_ GE148.out) | exact HB.out)) hb); (try clear hb); (try clear hb2); (try clear hk); (try clear hi); have hnb16 := NB146_147.out; have hnc16 := NB147_146.out; have hnb17 := NB146_148.out; have hnc17 := NB148_146.out; obtain ⟨hcz18_0, hcz18_1, hcz18_2, hcz18_3, hcz18_4, hcz18_5⟩ := c6 BK146.out; obtain ⟨hfz18_0, hfz18_1, hfz18_2, hfz18_3, hfz18_4, hfz18_5⟩ := f6 BK146.out) | (go_at_call 11; (with_reducible refine (weld_Valid.calls k a1_0 a1_1 a1_2 a1_3 a1_4 a1_5 t150 _ ?side1 A10.out).mono ?_); (case side1 => first | (with_reducible exact HG.out) | exact Glob.Globs_below HG.out (by repeat (first | (with_reducible first | exact HB.out | apply below_alloc | apply pw_below_drewN | apply below_drew1 | refine below_set ?_ GE145.out | refine below_set ?_ GE146.out | refine below_set ?_ GE147.out | refine below_set ?_ GE148.out) | exact HB.out))); rintro e w19 ⟨rfl, hb⟩; replace BK145 := Aside0.mk (blk_below (pl BK145.out) hb); replace BK146 := Aside0.mk (blk_below (pl BK146.out) hb); replace BK147 := Aside0.mk (blk_below (pl BK147.out) hb); replace BK148 := Aside0.mk (blk_below (pl BK148.out) hb); replace HB := Aside0.mk (below_step (by repeat (first | (with_reducible first | exact HB.out | apply below_alloc | apply pw_below_drewN | apply below_drew1 | refine below_set ?_ GE145.out | refine below_set ?_ GE146.out | refine below_set ?_ GE147.out | refine below_set ?_ GE148.out) | exact HB.out)) hb); (try clear hb); (try clear hb2); (try clear hk); (try clear hi)))
   go_meet
   case rel => exact ⟨_, (!t150), (by first | rfl | (simp; done) | (simp [*]; done)), H', ⟨by first | omega | exact Nat.le_refl _⟩, ⟨pl BK145.out⟩, ⟨pl BK146.out⟩, ⟨pl BK147.out⟩, ⟨pl BK148.out⟩, ⟨by repeat (first | (with_reducible first | exact HB.out | apply below_alloc | apply pw_below_drewN | apply below_drew1 | refine below_set ?_ GE145.out | refine below_set ?_ GE146.out | refine below_set ?_ GE147.out | refine below_set ?_ GE148.out) | exact HB.out)⟩⟩
  ·replace c9 := Bool.eq_false_iff.mpr c9
   subst c9
   have H1 : (weld_both.j0 k true a0_0 a0_1 a0_2 a0_3 a0_4 a0_5 a1_0 a1_1 a1_2 a1_3 a1_4 a1_5) = some (r1, r2, r3, r4, r5, r6, r7, r8, r9, r10, r11) := by rw [if_neg (show ¬ (false = true) by decide)] at H; exact H
   clear H; have H := H1; clear H1; have H' := Aside0.mk H; clear H; have hnb20 := NB145_146.out; have hnc20 := NB146_145.out; have hnb21 := NB145_147.out; have hnc21 := NB147_145.out; have hnb22 := NB145_148.out; have hnc22 := NB148_145.out; obtain ⟨hcz23_0, hcz23_1, hcz23_2, hcz23_3, hcz23_4, hcz23_5⟩ := c6 BK145.out; obtain ⟨hfz23_0, hfz23_1, hfz23_2, hfz23_3, hfz23_4, hfz23_5⟩ := f6 BK145.out
   go_wp2_with (first | ((with_reducible refine gate_callee (f := 11) rfl ?_); refine goesL_ (some 11) rfl rfl Tryd.func11 (by kernel_rfl) rfl #[.agg #[.int .i64 a0_0, .int .i64 a0_1, .int .i64 a0_2, .int .i64 a0_3, .string a0_4, .string a0_5]] rfl (by (try simp only [List.map_toArray, List.map_cons, List.map_nil]); first | done | rfl | (simp only [List.length_drop, List.length_take]; rfl)) ?_; (with_reducible refine (weld_Valid.calls k a0_0 a0_1 a0_2 a0_3 a0_4 a0_5 false _ ?side1 A8.out).mono ?_); (case side1 => first | (with_reducible exact HG.out) | exact Glob.Globs_below HG.out (by repeat (first | (with_reducible first | exact HB.out | apply below_alloc | apply pw_below_drewN | apply below_drew1 | refine below_set ?_ GE145.out | refine below_set ?_ GE146.out | refine below_set ?_ GE147.out | refine below_set ?_ GE148.out) | exact HB.out))); rintro e w24 ⟨rfl, hb⟩; refine ⟨_, rfl, ?_⟩; replace BK145 := Aside0.mk (blk_below (pl BK145.out) hb); replace BK146 := Aside0.mk (blk_below (pl BK146.out) hb); replace BK147 := Aside0.mk (blk_below (pl BK147.out) hb); replace BK148 := Aside0.mk (blk_below (pl BK148.out) hb); replace HB := Aside0.mk (below_step (by repeat (first | (with_reducible first | exact HB.out | apply below_alloc | apply pw_below_drewN | apply below_drew1 | refine below_set ?_ GE145.out | refine below_set ?_ GE146.out | refine below_set ?_ GE147.out | refine below_set ?_ GE148.out) | exact HB.out)) hb); (try clear hb); (try clear hb2); (try clear hk); (try clear hi)))
   go_meet
   case rel => exact ⟨_, (true), (by first | rfl | (simp; done) | (simp [*]; done)), H', ⟨by first | omega | exact Nat.le_refl _⟩, ⟨pl BK145.out⟩, ⟨pl BK146.out⟩, ⟨pl BK147.out⟩, ⟨pl BK148.out⟩, ⟨by repeat (first | (with_reducible first | exact HB.out | apply below_alloc | apply pw_below_drewN | apply below_drew1 | refine below_set ?_ GE145.out | refine below_set ?_ GE146.out | refine below_set ?_ GE147.out | refine below_set ?_ GE148.out) | exact HB.out)⟩⟩
 case rest =>
  clear HC3; (try clear c1); (try clear c2); (try clear p2); (try clear c3); (try clear c9); (try clear c11); (try clear c12); (try clear c13); (try clear c16); (try clear c17); (try clear c20); (try clear c21); (try clear c22); (try clear hcz14_0); (try clear hcz14_1); (try clear hcz14_2); (try clear hcz14_3); (try clear hcz14_4); (try clear hcz14_5); (try clear hcz18_0); (try clear hcz18_1); (try clear hcz18_2); (try clear hcz18_3); (try clear hcz18_4); (try clear hcz18_5); (try clear hcz23_0); (try clear hcz23_1); (try clear hcz23_2); (try clear hcz23_3); (try clear hcz23_4); (try clear hcz23_5); (try clear hfz14_0); (try clear hfz14_1); (try clear hfz14_2); (try clear hfz14_3); (try clear hfz14_4); (try clear hfz14_5); (try clear hfz18_0); (try clear hfz18_1); (try clear hfz18_2); (try clear hfz18_3); (try clear hfz18_4); (try clear hfz18_5); (try clear hfz23_0); (try clear hfz23_1); (try clear hfz23_2); (try clear hfz23_3); (try clear hfz23_4); (try clear hfz23_5)
  obtain ⟨kq, x9_2, rfl, HA, HJ2, BK145, BK146, BK147, BK148, HB⟩ := hcut
  cases kq with
  | zero => exact absurd HA.out (by simp [weld_both.j0])
  | succ kj2 =>
   have H := HA.out; clear HA
   simp only [weld_both.j0] at H
   by_cases c25 : x9_2 = true
   ·subst c25
    have H1 : (some (0, 0, 0, 0, (⟨#[]⟩ : ByteArray), (⟨#[]⟩ : ByteArray), 0, 0, 0, 0, 50)) = some (r1, r2, r3, r4, r5, r6, r7, r8, r9, r10, r11) := by rw [if_pos rfl] at H; exact H
    clear H; have H := H1; clear H1
    simp only [Option.some.injEq, Prod.mk.injEq] at H
    obtain ⟨rfl, rfl, rfl, rfl, rfl, rfl, rfl, rfl, rfl, rfl, rfl⟩ := H
    have hnb26 := NB147_145.out; have hnc26 := NB145_147.out; have hnb27 := NB147_146.out; have hnc27 := NB146_147.out; have hnb28 := NB147_148.out; have hnc28 := NB148_147.out; obtain ⟨hcz29_0, hcz29_1, hcz29_2, hcz29_3, hcz29_4, hcz29_5⟩ := c6 BK147.out; obtain ⟨hfz29_0, hfz29_1, hfz29_2, hfz29_3, hfz29_4, hfz29_5⟩ := f6 BK147.out; have hnb30 := NB148_145.out; have hnc30 := NB145_148.out; have hnb31 := NB148_146.out; have hnc31 := NB146_148.out; obtain ⟨hcz32_0, hcz32_1, hcz32_2, hcz32_3⟩ := c4 BK148.out; obtain ⟨hfz32_0, hfz32_1, hfz32_2, hfz32_3⟩ := f4 BK148.out
    go_wp2
    refine bodyPost_ret (results_list (rs := [.cell 4 26, .cell 5 24, .tmp 6]) rfl (by simp) (.cell gb147 26 #[.int .i64 0, .int .i64 0, .int .i64 0, .int .i64 0, .string (⟨#[]⟩ : ByteArray), .string (⟨#[]⟩ : ByteArray)] (0, 0) _ rfl (by refine pl ?_; refine blk_far ?_ NB147_148.out _; refine pl ?_; refine blk_far ?_ NB147_148.out _; refine pl ?_; refine blk_far ?_ NB147_148.out _; refine pl ?_; refine blk_far ?_ NB147_148.out _; refine pl ?_; refine blk_put (cs := #[.int .i64 0, .int .i64 0, .int .i64 0, .int .i64 0, .string (⟨#[]⟩ : ByteArray), .string (⟨#[]⟩ : ByteArray)]) ?_ 5 _ rfl; refine pl ?_; refine blk_put (cs := #[.int .i64 0, .int .i64 0, .int .i64 0, .int .i64 0, .string (⟨#[]⟩ : ByteArray), .string (⟨#[]⟩ : ByteArray)]) ?_ 4 _ rfl; refine pl ?_; refine blk_put (cs := #[.int .i64 0, .int .i64 0, .int .i64 0, .int .i64 0, .string (⟨#[]⟩ : ByteArray), .string (⟨#[]⟩ : ByteArray)]) ?_ 3 _ rfl; refine pl ?_; refine blk_put (cs := #[.int .i64 0, .int .i64 0, .int .i64 0, .int .i64 0, .string (⟨#[]⟩ : ByteArray), .string (⟨#[]⟩ : ByteArray)]) ?_ 2 _ rfl; refine pl ?_; refine blk_put (cs := #[.int .i64 0, .int .i64 0, .int .i64 0, .int .i64 0, .string (⟨#[]⟩ : ByteArray), .string (⟨#[]⟩ : ByteArray)]) ?_ 1 _ rfl; refine pl ?_; refine blk_put (cs := #[.int .i64 0, .int .i64 0, .int .i64 0, .int .i64 0, .string (⟨#[]⟩ : ByteArray), .string (⟨#[]⟩ : ByteArray)]) ?_ 0 _ rfl; refine pl ?_; exact BK147.out) Tryd.underlying26 rfl (by kernel_rfl) (.cell gb148 24 #[.int .i64 0, .int .i64 0, .int .i64 0, .int .i64 0] (0, 0) _ rfl (by refine pl ?_; refine blk_put (cs := #[.int .i64 0, .int .i64 0, .int .i64 0, .int .i64 0]) ?_ 3 _ rfl; refine pl ?_; refine blk_put (cs := #[.int .i64 0, .int .i64 0, .int .i64 0, .int .i64 0]) ?_ 2 _ rfl; refine pl ?_; refine blk_put (cs := #[.int .i64 0, .int .i64 0, .int .i64 0, .int .i64 0]) ?_ 1 _ rfl; refine pl ?_; refine blk_put (cs := #[.int .i64 0, .int .i64 0, .int .i64 0, .int .i64 0]) ?_ 0 _ rfl; refine pl ?_; refine blk_far ?_ NB148_147.out _; refine pl ?_; refine blk_far ?_ NB148_147.out _; refine pl ?_; refine blk_far ?_ NB148_147.out _; refine pl ?_; refine blk_far ?_ NB148_147.out _; refine pl ?_; refine blk_far ?_ NB148_147.out _; refine pl ?_; refine blk_far ?_ NB148_147.out _; refine pl ?_; exact BK148.out) Tryd.underlying24 rfl (by kernel_rfl) (.tmp .nil)))) rfl ?_
    exact ⟨by first | rfl | (simp [*] <;> rfl), by repeat (first | (with_reducible first | exact HB.out | apply below_alloc | apply pw_below_drewN | apply below_drew1 | refine below_set ?_ GE145.out | refine below_set ?_ GE146.out | refine below_set ?_ GE147.out | refine below_set ?_ GE148.out) | exact HB.out)⟩
   ·replace c25 := Bool.eq_false_iff.mpr c25
    subst c25
    have H1 : (if (wrap64 (a0_0 + a1_0)) > 268435456 then (some (0, 0, 0, 0, (⟨#[]⟩ : ByteArray), (⟨#[]⟩ : ByteArray), 0, 0, 0, 0, 5)) else ((weld_seam.f kj2 a0_0 a0_1 a0_2 a0_3 a0_4 a0_5 a1_0 a1_1 a1_2 a1_3 a1_4 a1_5).bind fun bt151 => ((weld_sum.f a0_0 a0_1 a0_2 a0_3 a1_0 a1_1 a1_2 a1_3 1).bind fun bt156 => ((weld_sum.f bt156.1 bt156.2.1 bt156.2.2.1 bt156.2.2.2 bt151.1 bt151.2.1 bt151.2.2.1 bt151.2.2.2 (-1)).bind fun bt160 => (if a0_0 < 3 then (if a0_4.size + a1_4.size ≤ 9223372036854775807 then ((weld_head.f (a0_4 ++ a1_4)).bind fun t165 => (weld_both.j1 kj2 a0_0 a0_1 a0_2 a0_3 a0_4 a0_5 a1_0 a1_1 a1_2 a1_3 a1_4 a1_5 bt151.1 bt151.2.1 bt151.2.2.1 bt151.2.2.2 bt160.1 bt160.2.1 bt160.2.2.1 bt160.2.2.2 t165 a1_5)) else (none)) else (weld_both.j1 kj2 a0_0 a0_1 a0_2 a0_3 a0_4 a0_5 a1_0 a1_1 a1_2 a1_3 a1_4 a1_5 bt151.1 bt151.2.1 bt151.2.2.1 bt151.2.2.2 bt160.1 bt160.2.1 bt160.2.2.1 bt160.2.2.2 a0_4 a1_5)))))) = some (r1, r2, r3, r4, r5, r6, r7, r8, r9, r10, r11) := by rw [if_neg (show ¬ (false = true) by decide)] at H; exact H
    clear H; have H := H1; clear H1
    by_cases c33 : (wrap64 (a0_0 + a1_0)) > 268435456
    ·rw [if_pos c33] at H
     have c33b0 : decide (268435456 < (wrap64 (a0_0 + a1_0))) = true := decide_eq_true c33
     clear c33
     simp only [Option.some.injEq, Prod.mk.injEq] at H
     obtain ⟨rfl, rfl, rfl, rfl, rfl, rfl, rfl, rfl, rfl, rfl, rfl⟩ := H
     have hnb34 := NB145_146.out; have hnc34 := NB146_145.out; have hnb35 := NB145_147.out; have hnc35 := NB147_145.out; have hnb36 := NB145_148.out; have hnc36 := NB148_145.out; obtain ⟨hcz37_0, hcz37_1, hcz37_2, hcz37_3, hcz37_4, hcz37_5⟩ := c6 BK145.out; obtain ⟨hfz37_0, hfz37_1, hfz37_2, hfz37_3, hfz37_4, hfz37_5⟩ := f6 BK145.out; have hnb38 := NB146_147.out; have hnc38 := NB147_146.out; have hnb39 := NB146_148.out; have hnc39 := NB148_146.out; obtain ⟨hcz40_0, hcz40_1, hcz40_2, hcz40_3, hcz40_4, hcz40_5⟩ := c6 BK146.out; obtain ⟨hfz40_0, hfz40_1, hfz40_2, hfz40_3, hfz40_4, hfz40_5⟩ := f6 BK146.out; have hnb41 := NB147_148.out; have hnc41 := NB148_147.out; obtain ⟨hcz42_0, hcz42_1, hcz42_2, hcz42_3, hcz42_4, hcz42_5⟩ := c6 BK147.out; obtain ⟨hfz42_0, hfz42_1, hfz42_2, hfz42_3, hfz42_4, hfz42_5⟩ := f6 BK147.out; obtain ⟨hcz43_0, hcz43_1, hcz43_2, hcz43_3⟩ := c4 BK148.out; obtain ⟨hfz43_0, hfz43_1, hfz43_2, hfz43_3⟩ := f4 BK148.out
     go_wp2
     refine bodyPost_ret (results_list (rs := [.cell 4 26, .cell 5 24, .tmp 6]) rfl (by simp) (.cell gb147 26 #[.int .i64 0, .int .i64 0, .int .i64 0, .int .i64 0, .string (⟨#[]⟩ : ByteArray), .string (⟨#[]⟩ : ByteArray)] (0, 0) _ rfl (by refine pl ?_; refine blk_far ?_ NB147_148.out _; refine pl ?_; refine blk_far ?_ NB147_148.out _; refine pl ?_; refine blk_far ?_ NB147_148.out _; refine pl ?_; refine blk_far ?_ NB147_148.out _; refine pl ?_; refine blk_put (cs := #[.int .i64 0, .int .i64 0, .int .i64 0, .int .i64 0, .string (⟨#[]⟩ : ByteArray), .string (⟨#[]⟩ : ByteArray)]) ?_ 5 _ rfl; refine pl ?_; refine blk_put (cs := #[.int .i64 0, .int .i64 0, .int .i64 0, .int .i64 0, .string (⟨#[]⟩ : ByteArray), .string (⟨#[]⟩ : ByteArray)]) ?_ 4 _ rfl; refine pl ?_; refine blk_put (cs := #[.int .i64 0, .int .i64 0, .int .i64 0, .int .i64 0, .string (⟨#[]⟩ : ByteArray), .string (⟨#[]⟩ : ByteArray)]) ?_ 3 _ rfl; refine pl ?_; refine blk_put (cs := #[.int .i64 0, .int .i64 0, .int .i64 0, .int .i64 0, .string (⟨#[]⟩ : ByteArray), .string (⟨#[]⟩ : ByteArray)]) ?_ 2 _ rfl; refine pl ?_; refine blk_put (cs := #[.int .i64 0, .int .i64 0, .int .i64 0, .int .i64 0, .string (⟨#[]⟩ : ByteArray), .string (⟨#[]⟩ : ByteArray)]) ?_ 1 _ rfl; refine pl ?_; refine blk_put (cs := #[.int .i64 0, .int .i64 0, .int .i64 0, .int .i64 0, .string (⟨#[]⟩ : ByteArray), .string (⟨#[]⟩ : ByteArray)]) ?_ 0 _ rfl; refine pl ?_; exact BK147.out) Tryd.underlying26 rfl (by kernel_rfl) (.cell gb148 24 #[.int .i64 0, .int .i64 0, .int .i64 0, .int .i64 0] (0, 0) _ rfl (by refine pl ?_; refine blk_put (cs := #[.int .i64 0, .int .i64 0, .int .i64 0, .int .i64 0]) ?_ 3 _ rfl; refine pl ?_; refine blk_put (cs := #[.int .i64 0, .int .i64 0, .int .i64 0, .int .i64 0]) ?_ 2 _ rfl; refine pl ?_; refine blk_put (cs := #[.int .i64 0, .int .i64 0, .int .i64 0, .int .i64 0]) ?_ 1 _ rfl; refine pl ?_; refine blk_put (cs := #[.int .i64 0, .int .i64 0, .int .i64 0, .int .i64 0]) ?_ 0 _ rfl; refine pl ?_; refine blk_far ?_ NB148_147.out _; refine pl ?_; refine blk_far ?_ NB148_147.out _; refine pl ?_; refine blk_far ?_ NB148_147.out _; refine pl ?_; refine blk_far ?_ NB148_147.out _; refine pl ?_; refine blk_far ?_ NB148_147.out _; refine pl ?_; refine blk_far ?_ NB148_147.out _; refine pl ?_; exact BK148.out) Tryd.underlying24 rfl (by kernel_rfl) (.tmp .nil)))) rfl ?_
     exact ⟨by first | rfl | (simp [*] <;> rfl), by repeat (first | (with_reducible first | exact HB.out | apply below_alloc | apply pw_below_drewN | apply below_drew1 | refine below_set ?_ GE145.out | refine below_set ?_ GE146.out | refine below_set ?_ GE147.out | refine below_set ?_ GE148.out) | exact HB.out)⟩
    ·rw [if_neg c33] at H
     have c33b0 : decide (268435456 < (wrap64 (a0_0 + a1_0))) = false := decide_eq_false c33
     clear c33
     replace H := Option.bind_eq_some_iff.mp H
     obtain ⟨⟨t151, t152, t153, t154⟩, A440, H⟩ := H
     replace H : ((weld_sum.f a0_0 a0_1 a0_2 a0_3 a1_0 a1_1 a1_2 a1_3 1).bind fun bt156 => ((weld_sum.f bt156.1 bt156.2.1 bt156.2.2.1 bt156.2.2.2 t151 t152 t153 t154 (-1)).bind fun bt160 => (if a0_0 < 3 then (if a0_4.size + a1_4.size ≤ 9223372036854775807 then ((weld_head.f (a0_4 ++ a1_4)).bind fun t165 => (weld_both.j1 kj2 a0_0 a0_1 a0_2 a0_3 a0_4 a0_5 a1_0 a1_1 a1_2 a1_3 a1_4 a1_5 t151 t152 t153 t154 bt160.1 bt160.2.1 bt160.2.2.1 bt160.2.2.2 t165 a1_5)) else (none)) else (weld_both.j1 kj2 a0_0 a0_1 a0_2 a0_3 a0_4 a0_5 a1_0 a1_1 a1_2 a1_3 a1_4 a1_5 t151 t152 t153 t154 bt160.1 bt160.2.1 bt160.2.2.1 bt160.2.2.2 a0_4 a1_5)))) = some (r1, r2, r3, r4, r5, r6, r7, r8, r9, r10, r11) := H
     have A44 := Aside0.mk A440; clear A440
     replace H := Option.bind_eq_some_iff.mp H
     obtain ⟨⟨t156, t157, t158, t159⟩, A450, H⟩ := H
     replace H : ((weld_sum.f t156 t157 t158 t159 t151 t152 t153 t154 (-1)).bind fun bt160 => (if a0_0 < 3 then (if a0_4.size + a1_4.size ≤ 9223372036854775807 then ((weld_head.f (a0_4 ++ a1_4)).bind fun t165 => (weld_both.j1 kj2 a0_0 a0_1 a0_2 a0_3 a0_4 a0_5 a1_0 a1_1 a1_2 a1_3 a1_4 a1_5 t151 t152 t153 t154 bt160.1 bt160.2.1 bt160.2.2.1 bt160.2.2.2 t165 a1_5)) else (none)) else (weld_both.j1 kj2 a0_0 a0_1 a0_2 a0_3 a0_4 a0_5 a1_0 a1_1 a1_2 a1_3 a1_4 a1_5 t151 t152 t153 t154 bt160.1 bt160.2.1 bt160.2.2.1 bt160.2.2.2 a0_4 a1_5))) = some (r1, r2, r3, r4, r5, r6, r7, r8, r9, r10, r11) := H
     have A45 := Aside0.mk A450; clear A450
     replace H := Option.bind_eq_some_iff.mp H
     obtain ⟨⟨t160, t161, t162, t163⟩, A460, H⟩ := H
     replace H : (if a0_0 < 3 then (if a0_4.size + a1_4.size ≤ 9223372036854775807 then ((weld_head.f (a0_4 ++ a1_4)).bind fun t165 => (weld_both.j1 kj2 a0_0 a0_1 a0_2 a0_3 a0_4 a0_5 a1_0 a1_1 a1_2 a1_3 a1_4 a1_5 t151 t152 t153 t154 t160 t161 t162 t163 t165 a1_5)) else (none)) else (weld_both.j1 kj2 a0_0 a0_1 a0_2 a0_3 a0_4 a0_5 a1_0 a1_1 a1_2 a1_3 a1_4 a1_5 t151 t152 t153 t154 t160 t161 t162 t163 a0_4 a1_5)) = some (r1, r2, r3, r4, r5, r6, r7, r8, r9, r10, r11) := H
     have A46 := Aside0.mk A460; clear A460; have HC47 := Aside0.mk H; clear H; have hnb48 := NB145_146.out; have hnc48 := NB146_145.out; have hnb49 := NB145_147.out; have hnc49 := NB147_145.out; have hnb50 := NB145_148.out; have hnc50 := NB148_145.out; obtain ⟨hcz51_0, hcz51_1, hcz51_2, hcz51_3, hcz51_4, hcz51_5⟩ := c6 BK145.out; obtain ⟨hfz51_0, hfz51_1, hfz51_2, hfz51_3, hfz51_4, hfz51_5⟩ := f6 BK145.out; have hnb52 := NB146_147.out; have hnc52 := NB147_146.out; have hnb53 := NB146_148.out; have hnc53 := NB148_146.out; obtain ⟨hcz54_0, hcz54_1, hcz54_2, hcz54_3, hcz54_4, hcz54_5⟩ := c6 BK146.out; obtain ⟨hfz54_0, hfz54_1, hfz54_2, hfz54_3, hfz54_4, hfz54_5⟩ := f6 BK146.out
     try go_wp2_with (first | ((with_reducible refine gate_callee (f := 38) rfl ?_); refine goesL_ (some 33) rfl rfl Tryd.func38 (by kernel_rfl) rfl #[.agg #[.int .i64 a0_0, .int .i64 a0_1, .int .i64 a0_2, .int .i64 a0_3, .string a0_4, .string a0_5], .agg #[.int .i64 a1_0, .int .i64 a1_1, .int .i64 a1_2, .int .i64 a1_3, .string a1_4, .string a1_5]] rfl (by (try simp only [List.map_toArray, List.map_cons, List.map_nil]); first | done | rfl | (simp only [List.length_drop, List.length_take]; rfl)) ?_; (with_reducible refine (weld_seam.calls kj2 a0_0 a0_1 a0_2 a0_3 a0_4 a0_5 a1_0 a1_1 a1_2 a1_3 a1_4 a1_5 t151 t152 t153 t154 _ ?side1 A44.out).mono ?_); (case side1 => first | (with_reducible exact HG.out) | exact Glob.Globs_below HG.out (by repeat (first | (with_reducible first | exact HB.out | apply below_alloc | apply pw_below_drewN | apply below_drew1 | refine below_set ?_ GE145.out | refine below_set ?_ GE146.out | refine below_set ?_ GE147.out | refine below_set ?_ GE148.out) | exact HB.out))); rintro e w55 ⟨rfl, hb⟩; refine ⟨_, rfl, ?_⟩; replace BK145 := Aside0.mk (blk_below (pl BK145.out) hb); replace BK146 := Aside0.mk (blk_below (pl BK146.out) hb); replace BK147 := Aside0.mk (blk_below (pl BK147.out) hb); replace BK148 := Aside0.mk (blk_below (pl BK148.out) hb); replace HB := Aside0.mk (below_step (by repeat (first | (with_reducible first | exact HB.out | apply below_alloc | apply pw_below_drewN | apply below_drew1 | refine below_set ?_ GE145.out | refine below_set ?_ GE146.out | refine below_set ?_ GE147.out | refine below_set ?_ GE148.out) | exact HB.out)) hb); (try clear hb); (try clear hb2); (try clear hk); (try clear hi)) | ((with_reducible refine gate_dst (N := 7) rfl ?_); refine box_event ?hg (N := 7) ?hd (cs := #[.int .i64 0, .int .i64 0, .int .i64 0, .int .i64 0]) (t := 24) ?hr ?_; (case hd => rfl); (case hg => rfl); (case hr => first | (go_simp; done) | (go_simp; rfl)); intro gb155 hg w56 hbox hb; have BK155 := Aside0.mk (hbox); have GW155 := Aside0.mk ((by rw [hg]; exact (below_size (by repeat (first | (with_reducible first | exact HB.out | apply below_alloc | apply pw_below_drewN | apply below_drew1 | refine below_set ?_ GE145.out | refine below_set ?_ GE146.out | refine below_set ?_ GE147.out | refine below_set ?_ GE148.out) | exact HB.out))) : w.heap.size ≤ gb155)); have GE155 := GW155; replace HB := Aside0.mk (below_step (by repeat (first | (with_reducible first | exact HB.out | apply below_alloc | apply pw_below_drewN | apply below_drew1 | refine below_set ?_ GE145.out | refine below_set ?_ GE146.out | refine below_set ?_ GE147.out | refine below_set ?_ GE148.out) | exact HB.out)) hb); obtain ⟨NB145_155, NB155_145⟩ := nbp hg (pl BK145.out); replace BK145 := Aside0.mk (blk_below (pl BK145.out) hb); obtain ⟨NB146_155, NB155_146⟩ := nbp hg (pl BK146.out); replace BK146 := Aside0.mk (blk_below (pl BK146.out) hb); obtain ⟨NB147_155, NB155_147⟩ := nbp hg (pl BK147.out); replace BK147 := Aside0.mk (blk_below (pl BK147.out) hb); obtain ⟨NB148_155, NB155_148⟩ := nbp hg (pl BK148.out); replace BK148 := Aside0.mk (blk_below (pl BK148.out) hb); clear hb hbox hg; have hnb57 := NB155_145.out; have hnc57 := NB145_155.out; have hnb58 := NB155_146.out; have hnc58 := NB146_155.out; have hnb59 := NB155_147.out; have hnc59 := NB147_155.out; have hnb60 := NB155_148.out; have hnc60 := NB148_155.out; obtain ⟨hcz61_0, hcz61_1, hcz61_2, hcz61_3⟩ := c4 BK155.out; obtain ⟨hfz61_0, hfz61_1, hfz61_2, hfz61_3⟩ := f4 BK155.out))
     have n0_ : Aside0 (((((w56.setCell ⟨gb155, 0, none⟩ (.int .i64 t151)).setCell ⟨gb155, 1, none⟩ (.int .i64 t152)).setCell ⟨gb155, 2, none⟩ (.int .i64 t153)).setCell ⟨gb155, 3, none⟩ (.int .i64 t154)).heap[gb145]? = some (.cells #[.int .i64 a0_0, .int .i64 a0_1, .int .i64 a0_2, .int .i64 a0_3, .string a0_4, .string a0_5] 26 (0, 0))) := ⟨by refine pl ?_; refine blk_far ?_ NB145_155.out _; refine pl ?_; refine blk_far ?_ NB145_155.out _; refine pl ?_; refine blk_far ?_ NB145_155.out _; refine pl ?_; refine blk_far ?_ NB145_155.out _; refine pl ?_; exact BK145.out⟩
     have n1_ : Aside0 (((((w56.setCell ⟨gb155, 0, none⟩ (.int .i64 t151)).setCell ⟨gb155, 1, none⟩ (.int .i64 t152)).setCell ⟨gb155, 2, none⟩ (.int .i64 t153)).setCell ⟨gb155, 3, none⟩ (.int .i64 t154)).heap[gb146]? = some (.cells #[.int .i64 a1_0, .int .i64 a1_1, .int .i64 a1_2, .int .i64 a1_3, .string a1_4, .string a1_5] 26 (0, 0))) := ⟨by refine pl ?_; refine blk_far ?_ NB146_155.out _; refine pl ?_; refine blk_far ?_ NB146_155.out _; refine pl ?_; refine blk_far ?_ NB146_155.out _; refine pl ?_; refine blk_far ?_ NB146_155.out _; refine pl ?_; exact BK146.out⟩
     have n2_ : Aside0 (((((w56.setCell ⟨gb155, 0, none⟩ (.int .i64 t151)).setCell ⟨gb155, 1, none⟩ (.int .i64 t152)).setCell ⟨gb155, 2, none⟩ (.int .i64 t153)).setCell ⟨gb155, 3, none⟩ (.int .i64 t154)).heap[gb147]? = some (.cells #[.int .i64 0, .int .i64 0, .int .i64 0, .int .i64 0, .string (⟨#[]⟩ : ByteArray), .string (⟨#[]⟩ : ByteArray)] 26 (0, 0))) := ⟨by refine pl ?_; refine blk_far ?_ NB147_155.out _; refine pl ?_; refine blk_far ?_ NB147_155.out _; refine pl ?_; refine blk_far ?_ NB147_155.out _; refine pl ?_; refine blk_far ?_ NB147_155.out _; refine pl ?_; exact BK147.out⟩
     have n3_ : Aside0 (((((w56.setCell ⟨gb155, 0, none⟩ (.int .i64 t151)).setCell ⟨gb155, 1, none⟩ (.int .i64 t152)).setCell ⟨gb155, 2, none⟩ (.int .i64 t153)).setCell ⟨gb155, 3, none⟩ (.int .i64 t154)).heap[gb148]? = some (.cells #[.int .i64 0, .int .i64 0, .int .i64 0, .int .i64 0] 24 (0, 0))) := ⟨by refine pl ?_; refine blk_far ?_ NB148_155.out _; refine pl ?_; refine blk_far ?_ NB148_155.out _; refine pl ?_; refine blk_far ?_ NB148_155.out _; refine pl ?_; refine blk_far ?_ NB148_155.out _; refine pl ?_; exact BK148.out⟩
     have n4_ : Aside0 (((((w56.setCell ⟨gb155, 0, none⟩ (.int .i64 t151)).setCell ⟨gb155, 1, none⟩ (.int .i64 t152)).setCell ⟨gb155, 2, none⟩ (.int .i64 t153)).setCell ⟨gb155, 3, none⟩ (.int .i64 t154)).heap[gb155]? = some (.cells #[.int .i64 t151, .int .i64 t152, .int .i64 t153, .int .i64 t154] 24 (0, 0))) := ⟨by refine pl ?_; refine blk_put (cs := #[.int .i64 t151, .int .i64 t152, .int .i64 t153, .int .i64 0]) ?_ 3 _ rfl; refine pl ?_; refine blk_put (cs := #[.int .i64 t151, .int .i64 t152, .int .i64 0, .int .i64 0]) ?_ 2 _ rfl; refine pl ?_; refine blk_put (cs := #[.int .i64 t151, .int .i64 0, .int .i64 0, .int .i64 0]) ?_ 1 _ rfl; refine pl ?_; refine blk_put (cs := #[.int .i64 0, .int .i64 0, .int .i64 0, .int .i64 0]) ?_ 0 _ rfl; refine pl ?_; exact BK155.out⟩
     have n5_ : Aside0 (Below w.heap.size w ((((w56.setCell ⟨gb155, 0, none⟩ (.int .i64 t151)).setCell ⟨gb155, 1, none⟩ (.int .i64 t152)).setCell ⟨gb155, 2, none⟩ (.int .i64 t153)).setCell ⟨gb155, 3, none⟩ (.int .i64 t154))) := ⟨by repeat (first | (with_reducible first | exact HB.out | apply below_alloc | apply pw_below_drewN | apply below_drew1 | refine below_set ?_ GE145.out | refine below_set ?_ GE146.out | refine below_set ?_ GE147.out | refine below_set ?_ GE148.out | refine below_set ?_ GE155.out) | exact HB.out)⟩
     (try clear BK145)
     (try clear BK146)
     (try clear BK147)
     (try clear BK148)
     (try clear BK155)
     (try clear HB)
     generalize ((((w56.setCell ⟨gb155, 0, none⟩ (.int .i64 t151)).setCell ⟨gb155, 1, none⟩ (.int .i64 t152)).setCell ⟨gb155, 2, none⟩ (.int .i64 t153)).setCell ⟨gb155, 3, none⟩ (.int .i64 t154)) = w62 at n0_ n1_ n2_ n3_ n4_ n5_ ⊢
     have BK145 := n0_; have BK146 := n1_; have BK147 := n2_; have BK148 := n3_; have BK155 := n4_; have HB := n5_; clear n0_ n1_ n2_ n3_ n4_ n5_
     replace BK145 := Aside0.mk (blk_drew BK145.out); replace BK146 := Aside0.mk (blk_drew BK146.out); replace BK147 := Aside0.mk (blk_drew BK147.out); replace BK148 := Aside0.mk (blk_drew BK148.out); replace BK155 := Aside0.mk (blk_drew BK155.out); replace HB := Aside0.mk (below_drew1 HB.out)
     refine start_ (n := 14) (S := fun w' => w'.cell? ⟨gb145, 0, none⟩ = some (.int .i64 a0_0) ∧ w'.cell? ⟨gb145, 1, none⟩ = some (.int .i64 a0_1) ∧ w'.cell? ⟨gb145, 2, none⟩ = some (.int .i64 a0_2) ∧ w'.cell? ⟨gb145, 3, none⟩ = some (.int .i64 a0_3) ∧ w'.cell? ⟨gb145, 4, none⟩ = some (.string a0_4) ∧ w'.cell? ⟨gb145, 5, none⟩ = some (.string a0_5) ∧ w'.cell? ⟨gb146, 0, none⟩ = some (.int .i64 a1_0) ∧ w'.cell? ⟨gb146, 1, none⟩ = some (.int .i64 a1_1) ∧ w'.cell? ⟨gb146, 2, none⟩ = some (.int .i64 a1_2) ∧ w'.cell? ⟨gb146, 3, none⟩ = some (.int .i64 a1_3) ∧ w'.cell? ⟨gb146, 4, none⟩ = some (.string a1_4) ∧ w'.cell? ⟨gb146, 5, none⟩ = some (.string a1_5) ∧ w'.cell? ⟨gb155, 0, none⟩ = some (.int .i64 t151) ∧ w'.cell? ⟨gb155, 1, none⟩ = some (.int .i64 t152) ∧ w'.cell? ⟨gb155, 2, none⟩ = some (.int .i64 t153) ∧ w'.cell? ⟨gb155, 3, none⟩ = some (.int .i64 t154)) (ds := []) #[false, false, false, false, false, false, false, false, false, false, false, false, false, false] (by kernel_rfl) rfl rfl ⟨(blk_cell BK145.out 0).trans rfl, (blk_cell BK145.out 1).trans rfl, (blk_cell BK145.out 2).trans rfl, (blk_cell BK145.out 3).trans rfl, (blk_cell BK145.out 4).trans rfl, (blk_cell BK145.out 5).trans rfl, (blk_cell BK146.out 0).trans rfl, (blk_cell BK146.out 1).trans rfl, (blk_cell BK146.out 2).trans rfl, (blk_cell BK146.out 3).trans rfl, (blk_cell BK146.out 4).trans rfl, (blk_cell BK146.out 5).trans rfl, (blk_cell BK155.out 0).trans rfl, (blk_cell BK155.out 1).trans rfl, (blk_cell BK155.out 2).trans rfl, (blk_cell BK155.out 3).trans rfl⟩ (fun hHeld => ?_); refine with_tabW weld_both.tab6 weld_both.bits6 (fun HT_ HW_ => ?_)
     generalize w62.drew = w63 at BK145 BK146 BK147 BK148 BK155 HB hHeld ⊢
     refine pure_ (i := 0) (N := some 34) (v := ?_) (a' := ?_) #[true, false, false, false, false, false, false, false, false, false, false, false, false, false] rfl rfl (any_of HT_.out (by kernel_rfl)) (fun _ _ _ h => h) (Or.inl ⟨by rfl, ?_⟩) ?_ ?_
     rotate_left
     ·intro w'
      go_simp
      with_reducible rfl
     rotate_left
     ·simp only [Act.put, List.setIfInBounds_toArray, List.set_cons_zero, List.set_cons_succ, i64_w, i32_w]
      rfl
     refine pure_ (i := 2) (N := some 36) (v := ?_) (a' := ?_) #[true, false, true, false, false, false, false, false, false, false, false, false, false, false] rfl rfl (any_of HT_.out (by kernel_rfl)) (fun _ _ _ h => h) (Or.inl ⟨by rfl, ?_⟩) ?_ ?_
     rotate_left
     ·intro w'
      go_simp
      with_reducible rfl
     rotate_left
     ·simp only [Act.put, List.setIfInBounds_toArray, List.set_cons_zero, List.set_cons_succ, i64_w, i32_w]
      rfl
     refine pure_ (i := 7) (N := some 41) (v := ?_) (a' := ?_) #[true, false, true, false, false, false, false, true, false, false, false, false, false, false] rfl rfl (any_of HT_.out (by kernel_rfl)) (fun _ _ _ h => h) (Or.inl ⟨by rfl, ?_⟩) ?_ ?_
     rotate_left
     ·intro w'
      go_simp
      with_reducible rfl
     rotate_left
     ·simp only [Act.put, List.setIfInBounds_toArray, List.set_cons_zero, List.set_cons_succ, i64_w, i32_w]
      rfl
     refine pure_ (i := 9) (N := some 43) (v := ?_) (a' := ?_) #[true, false, true, false, false, false, false, true, false, true, false, false, false, false] rfl rfl (any_of HT_.out (by kernel_rfl)) (fun _ _ _ h => h) (Or.inl ⟨by rfl, ?_⟩) ?_ ?_
     rotate_left
     ·intro w'
      go_simp
      with_reducible rfl
     rotate_left
     ·simp only [Act.put, List.setIfInBounds_toArray, List.set_cons_zero, List.set_cons_succ, i64_w, i32_w]
      rfl
     refine take_ (i := 1) (N := some 35) (v := ?_) (a' := ?_) #[true, true, true, false, false, false, false, true, false, true, false, false, false, false] rfl rfl (take_ofW HT_.out HW_.out (by kernel_rfl)) (fun _ _ _ h => h) (Or.inl ⟨by rfl, ?_⟩) hHeld ?_ ?_
     rotate_left
     ·rintro w' ⟨s0, s1, s2, s3, s4, s5, s6, s7, s8, s9, s10, s11, s12, s13, s14, s15⟩
      go_simp
      with_reducible rfl
     rotate_left
     ·simp only [Act.put, List.setIfInBounds_toArray, List.set_cons_zero, List.set_cons_succ, i64_w, i32_w]
      rfl
     refine take_ (i := 3) (N := some 37) (v := ?_) (a' := ?_) #[true, true, true, true, false, false, false, true, false, true, false, false, false, false] rfl rfl (take_ofW HT_.out HW_.out (by kernel_rfl)) (fun _ _ _ h => h) (Or.inl ⟨by rfl, ?_⟩) hHeld ?_ ?_
     rotate_left
     ·rintro w' ⟨s0, s1, s2, s3, s4, s5, s6, s7, s8, s9, s10, s11, s12, s13, s14, s15⟩
      go_simp
      with_reducible rfl
     rotate_left
     ·simp only [Act.put, List.setIfInBounds_toArray, List.set_cons_zero, List.set_cons_succ, i64_w, i32_w]
      rfl
     refine take_ (i := 5) (N := some 39) (v := ?_) (a' := ?_) #[true, true, true, true, false, true, false, true, false, true, false, false, false, false] rfl rfl (take_ofW HT_.out HW_.out (by kernel_rfl)) (fun _ _ _ h => h) (Or.inl ⟨by rfl, ?_⟩) hHeld ?_ ?_
     rotate_left
     ·rintro w' ⟨s0, s1, s2, s3, s4, s5, s6, s7, s8, s9, s10, s11, s12, s13, s14, s15⟩
      go_simp
      with_reducible rfl
     rotate_left
     ·simp only [Act.put, List.setIfInBounds_toArray, List.set_cons_zero, List.set_cons_succ, i64_w, i32_w]
      rfl
     refine take_ (i := 8) (N := some 42) (v := ?_) (a' := ?_) #[true, true, true, true, false, true, false, true, true, true, false, false, false, false] rfl rfl (take_ofW HT_.out HW_.out (by kernel_rfl)) (fun _ _ _ h => h) (Or.inl ⟨by rfl, ?_⟩) hHeld ?_ ?_
     rotate_left
     ·rintro w' ⟨s0, s1, s2, s3, s4, s5, s6, s7, s8, s9, s10, s11, s12, s13, s14, s15⟩
      go_simp
      with_reducible rfl
     rotate_left
     ·simp only [Act.put, List.setIfInBounds_toArray, List.set_cons_zero, List.set_cons_succ, i64_w, i32_w]
      rfl
     refine take_ (i := 10) (N := some 44) (v := ?_) (a' := ?_) #[true, true, true, true, false, true, false, true, true, true, true, false, false, false] rfl rfl (take_ofW HT_.out HW_.out (by kernel_rfl)) (fun _ _ _ h => h) (Or.inl ⟨by rfl, ?_⟩) hHeld ?_ ?_
     rotate_left
     ·rintro w' ⟨s0, s1, s2, s3, s4, s5, s6, s7, s8, s9, s10, s11, s12, s13, s14, s15⟩
      go_simp
      with_reducible rfl
     rotate_left
     ·simp only [Act.put, List.setIfInBounds_toArray, List.set_cons_zero, List.set_cons_succ, i64_w, i32_w]
      rfl
     refine join_ (σ := Nat) 1 #[true, true, true, true, true, true, true, true, true, true, true, true, true, false] (fun s_ => [(38, .agg #[.int .i64 t156, .int .i64 t157, .int .i64 t158, .int .i64 t159]), (40, .agg #[.int .i64 t160, .int .i64 t161, .int .i64 t162, .int .i64 t163]), (8, .pointer (some ⟨s_, 0, none⟩)), (45, .agg #[.int .i64 t160, .int .i64 t161, .int .i64 t162, .int .i64 t163, .string a0_4, .string a1_5])]) (fun s_ w' => (w'.cell? ⟨gb145, 0, none⟩ = some (.int .i64 a0_0) ∧ w'.cell? ⟨gb145, 1, none⟩ = some (.int .i64 a0_1) ∧ w'.cell? ⟨gb145, 2, none⟩ = some (.int .i64 a0_2) ∧ w'.cell? ⟨gb145, 3, none⟩ = some (.int .i64 a0_3) ∧ w'.cell? ⟨gb145, 4, none⟩ = some (.string a0_4) ∧ w'.cell? ⟨gb145, 5, none⟩ = some (.string a0_5) ∧ w'.cell? ⟨gb146, 0, none⟩ = some (.int .i64 a1_0) ∧ w'.cell? ⟨gb146, 1, none⟩ = some (.int .i64 a1_1) ∧ w'.cell? ⟨gb146, 2, none⟩ = some (.int .i64 a1_2) ∧ w'.cell? ⟨gb146, 3, none⟩ = some (.int .i64 a1_3) ∧ w'.cell? ⟨gb146, 4, none⟩ = some (.string a1_4) ∧ w'.cell? ⟨gb146, 5, none⟩ = some (.string a1_5) ∧ w'.cell? ⟨gb155, 0, none⟩ = some (.int .i64 t151) ∧ w'.cell? ⟨gb155, 1, none⟩ = some (.int .i64 t152) ∧ w'.cell? ⟨gb155, 2, none⟩ = some (.int .i64 t153) ∧ w'.cell? ⟨gb155, 3, none⟩ = some (.int .i64 t154)) ∧ (w'.heap[gb145]? = some (.cells #[.int .i64 a0_0, .int .i64 a0_1, .int .i64 a0_2, .int .i64 a0_3, .string a0_4, .string a0_5] 26 (0, 0))) ∧ (w'.heap[gb146]? = some (.cells #[.int .i64 a1_0, .int .i64 a1_1, .int .i64 a1_2, .int .i64 a1_3, .string a1_4, .string a1_5] 26 (0, 0))) ∧ (w'.heap[gb147]? = some (.cells #[.int .i64 0, .int .i64 0, .int .i64 0, .int .i64 0, .string (⟨#[]⟩ : ByteArray), .string (⟨#[]⟩ : ByteArray)] 26 (0, 0))) ∧ (w'.heap[gb148]? = some (.cells #[.int .i64 0, .int .i64 0, .int .i64 0, .int .i64 0] 24 (0, 0))) ∧ (w'.heap[gb155]? = some (.cells #[.int .i64 t151, .int .i64 t152, .int .i64 t153, .int .i64 t154] 24 (0, 0))) ∧ (w'.heap[s_]? = some (.cells #[.int .i64 0, .int .i64 0, .int .i64 0, .int .i64 0, .string (⟨#[]⟩ : ByteArray), .string (⟨#[]⟩ : ByteArray)] 26 (0, 0))) ∧ (w.heap.size ≤ s_) ∧ (w.heap.size ≤ s_) ∧ (gb145 ≠ s_) ∧ (s_ ≠ gb145) ∧ (gb146 ≠ s_) ∧ (s_ ≠ gb146) ∧ (gb147 ≠ s_) ∧ (s_ ≠ gb147) ∧ (gb148 ≠ s_) ∧ (s_ ≠ gb148) ∧ (gb155 ≠ s_) ∧ (s_ ≠ gb155) ∧ (Below w.heap.size w w')) ?_ ?_
     rotate_left
     ·intro hCont
      refine two_ (i := 4) (j := 12) (Ni := some 38) (Nj := some 8) #[true, true, true, true, true, true, false, true, true, true, true, false, false, false] #[true, true, true, true, false, true, false, true, true, true, true, false, true, false] rfl rfl rfl rfl (two_of HT_.out (by kernel_rfl)) (by decide) (by decide) (fun K hK => ?_) (fun K hK => ?_)
      ·skip
       refine goes_ Tryd.func39 (by kernel_rfl) rfl #[.agg #[.int .i64 a0_0, .int .i64 a0_1, .int .i64 a0_2, .int .i64 a0_3], .agg #[.int .i64 a1_0, .int .i64 a1_1, .int .i64 a1_2, .int .i64 a1_3], .int .i64 1] (by rfl) rfl rfl (by (try simp only [List.map_toArray, List.map_cons, List.map_nil]); first | done | rfl | (simp only [List.length_drop, List.length_take]; rfl)) ?_
       with_reducible refine (weld_sum.calls a0_0 a0_1 a0_2 a0_3 a1_0 a1_1 a1_2 a1_3 1 t156 t157 t158 t159 _ A45.out).mono ?_
       rintro e w64 ⟨rfl, hb⟩
       refine ⟨_, rfl, ?_⟩
       replace BK145 := Aside0.mk (blk_below (pl BK145.out) hb); replace BK146 := Aside0.mk (blk_below (pl BK146.out) hb); replace BK147 := Aside0.mk (blk_below (pl BK147.out) hb); replace BK148 := Aside0.mk (blk_below (pl BK148.out) hb); replace BK155 := Aside0.mk (blk_below (pl BK155.out) hb); replace HB := Aside0.mk (below_step (by repeat (first | (with_reducible first | exact HB.out | apply below_alloc | apply pw_below_drewN | apply below_drew1 | refine below_set ?_ GE145.out | refine below_set ?_ GE146.out | refine below_set ?_ GE147.out | refine below_set ?_ GE148.out | refine below_set ?_ GE155.out) | exact HB.out)) hb)
       (try clear hb)
       (try clear hb2)
       (try clear hk)
       (try clear hi)
       refine hK.out _ _ ⟨(blk_cell BK145.out 0).trans rfl, (blk_cell BK145.out 1).trans rfl, (blk_cell BK145.out 2).trans rfl, (blk_cell BK145.out 3).trans rfl, (blk_cell BK145.out 4).trans rfl, (blk_cell BK145.out 5).trans rfl, (blk_cell BK146.out 0).trans rfl, (blk_cell BK146.out 1).trans rfl, (blk_cell BK146.out 2).trans rfl, (blk_cell BK146.out 3).trans rfl, (blk_cell BK146.out 4).trans rfl, (blk_cell BK146.out 5).trans rfl, (blk_cell BK155.out 0).trans rfl, (blk_cell BK155.out 1).trans rfl, (blk_cell BK155.out 2).trans rfl, (blk_cell BK155.out 3).trans rfl⟩ (fun hHeld => ?_)
       clear hK K
       refine norm_ (a' := ?_) ?_ ?_
       rotate_left
       ·show Act.put _ (some 38) _ = _
        simp only [Act.put, List.setIfInBounds_toArray, List.set_cons_zero, List.set_cons_succ, i64_w, i32_w]
        rfl
       refine two_ (i := 6) (j := 12) (Ni := some 40) (Nj := some 8) #[true, true, true, true, true, true, true, true, true, true, true, false, false, false] #[true, true, true, true, true, true, false, true, true, true, true, false, true, false] rfl rfl rfl rfl (two_of HT_.out (by kernel_rfl)) (by decide) (by decide) (fun K hK => ?_) (fun K hK => ?_)
       ·skip
        refine goes_ Tryd.func39 (by kernel_rfl) rfl #[.agg #[.int .i64 t156, .int .i64 t157, .int .i64 t158, .int .i64 t159], .agg #[.int .i64 t151, .int .i64 t152, .int .i64 t153, .int .i64 t154], .int .i64 (-1)] (by rfl) rfl rfl (by (try simp only [List.map_toArray, List.map_cons, List.map_nil]); first | done | rfl | (simp only [List.length_drop, List.length_take]; rfl)) ?_
        with_reducible refine (weld_sum.calls t156 t157 t158 t159 t151 t152 t153 t154 (-1) t160 t161 t162 t163 _ A46.out).mono ?_
        rintro e w65 ⟨rfl, hb⟩
        refine ⟨_, rfl, ?_⟩
        replace BK145 := Aside0.mk (blk_below (pl BK145.out) hb); replace BK146 := Aside0.mk (blk_below (pl BK146.out) hb); replace BK147 := Aside0.mk (blk_below (pl BK147.out) hb); replace BK148 := Aside0.mk (blk_below (pl BK148.out) hb); replace BK155 := Aside0.mk (blk_below (pl BK155.out) hb); replace HB := Aside0.mk (below_step (by repeat (first | (with_reducible first | exact HB.out | apply below_alloc | apply pw_below_drewN | apply below_drew1 | refine below_set ?_ GE145.out | refine below_set ?_ GE146.out | refine below_set ?_ GE147.out | refine below_set ?_ GE148.out | refine below_set ?_ GE155.out) | exact HB.out)) hb)
        (try clear hb)
        (try clear hb2)
        (try clear hk)
        (try clear hi)
        refine hK.out _ _ ⟨(blk_cell BK145.out 0).trans rfl, (blk_cell BK145.out 1).trans rfl, (blk_cell BK145.out 2).trans rfl, (blk_cell BK145.out 3).trans rfl, (blk_cell BK145.out 4).trans rfl, (blk_cell BK145.out 5).trans rfl, (blk_cell BK146.out 0).trans rfl, (blk_cell BK146.out 1).trans rfl, (blk_cell BK146.out 2).trans rfl, (blk_cell BK146.out 3).trans rfl, (blk_cell BK146.out 4).trans rfl, (blk_cell BK146.out 5).trans rfl, (blk_cell BK155.out 0).trans rfl, (blk_cell BK155.out 1).trans rfl, (blk_cell BK155.out 2).trans rfl, (blk_cell BK155.out 3).trans rfl⟩ (fun hHeld => ?_)
        clear hK K
        refine norm_ (a' := ?_) ?_ ?_
        rotate_left
        ·show Act.put _ (some 40) _ = _
         simp only [Act.put, List.setIfInBounds_toArray, List.set_cons_zero, List.set_cons_succ, i64_w, i32_w]
         rfl
        refine pure_ (i := 11) (N := some 45) (v := ?_) (a' := ?_) #[true, true, true, true, true, true, true, true, true, true, true, true, false, false] rfl rfl (any_of HT_.out (by kernel_rfl)) (fun _ _ _ h => h) (Or.inl ⟨by rfl, ?_⟩) ?_ ?_
        rotate_left
        ·intro w'
         go_simp
         with_reducible rfl
        rotate_left
        ·simp only [Act.put, List.setIfInBounds_toArray, List.set_cons_zero, List.set_cons_succ, i64_w, i32_w]
         rfl
        refine one_ (i := 12) (N := some 8) #[true, true, true, true, true, true, true, true, true, true, true, true, true, false] rfl rfl (one_of HT_.out (by kernel_rfl)) (by decide) (fun K hK => ?_)
        refine box_step ?hg (N := 8) ?hd (cs := #[.int .i64 0, .int .i64 0, .int .i64 0, .int .i64 0, .string (⟨#[]⟩ : ByteArray), .string (⟨#[]⟩ : ByteArray)]) (t := 26) ?hr ?_; (case hd => rfl); (case hg => rfl); (case hr => first | (go_simp; done) | (go_simp; rfl))
        intro gb164 hg w66 hbox hb
        have BK164 := Aside0.mk (hbox); have GW164 := Aside0.mk ((by rw [hg]; exact (below_size (by repeat (first | (with_reducible first | exact HB.out | apply below_alloc | apply pw_below_drewN | apply below_drew1 | refine below_set ?_ GE145.out | refine below_set ?_ GE146.out | refine below_set ?_ GE147.out | refine below_set ?_ GE148.out | refine below_set ?_ GE155.out) | exact HB.out))) : w.heap.size ≤ gb164)); have GE164 := GW164; replace HB := Aside0.mk (below_step (by repeat (first | (with_reducible first | exact HB.out | apply below_alloc | apply pw_below_drewN | apply below_drew1 | refine below_set ?_ GE145.out | refine below_set ?_ GE146.out | refine below_set ?_ GE147.out | refine below_set ?_ GE148.out | refine below_set ?_ GE155.out) | exact HB.out)) hb); obtain ⟨NB145_164, NB164_145⟩ := nbp hg (pl BK145.out); replace BK145 := Aside0.mk (blk_below (pl BK145.out) hb); obtain ⟨NB146_164, NB164_146⟩ := nbp hg (pl BK146.out); replace BK146 := Aside0.mk (blk_below (pl BK146.out) hb); obtain ⟨NB147_164, NB164_147⟩ := nbp hg (pl BK147.out); replace BK147 := Aside0.mk (blk_below (pl BK147.out) hb); obtain ⟨NB148_164, NB164_148⟩ := nbp hg (pl BK148.out); replace BK148 := Aside0.mk (blk_below (pl BK148.out) hb); obtain ⟨NB155_164, NB164_155⟩ := nbp hg (pl BK155.out); replace BK155 := Aside0.mk (blk_below (pl BK155.out) hb); clear hb hbox hg
        refine hK.out _ _ ⟨(blk_cell BK145.out 0).trans rfl, (blk_cell BK145.out 1).trans rfl, (blk_cell BK145.out 2).trans rfl, (blk_cell BK145.out 3).trans rfl, (blk_cell BK145.out 4).trans rfl, (blk_cell BK145.out 5).trans rfl, (blk_cell BK146.out 0).trans rfl, (blk_cell BK146.out 1).trans rfl, (blk_cell BK146.out 2).trans rfl, (blk_cell BK146.out 3).trans rfl, (blk_cell BK146.out 4).trans rfl, (blk_cell BK146.out 5).trans rfl, (blk_cell BK155.out 0).trans rfl, (blk_cell BK155.out 1).trans rfl, (blk_cell BK155.out 2).trans rfl, (blk_cell BK155.out 3).trans rfl⟩ (fun hHeld => ?_)
        clear hK K
        refine norm_ (a' := ?_) ?_ ?_
        rotate_left
        ·show Act.put _ (some 8) _ = _
         simp only [Act.put, List.setIfInBounds_toArray, List.set_cons_zero, List.set_cons_succ, i64_w, i32_w]
         rfl
        exact norm_ (by simp only [putAll, Act.put, List.setIfInBounds_toArray, List.set_cons_zero, List.set_cons_succ]) (hCont (gb164) _ ⟨hHeld, (pl BK145.out), (pl BK146.out), (pl BK147.out), (pl BK148.out), (pl BK155.out), (pl BK164.out), GW164.out, GE164.out, NB145_164.out, NB164_145.out, NB146_164.out, NB164_146.out, NB147_164.out, NB164_147.out, NB148_164.out, NB164_148.out, NB155_164.out, NB164_155.out, (by repeat (first | (with_reducible first | exact HB.out | apply below_alloc | apply pw_below_drewN | apply below_drew1 | refine below_set ?_ GE145.out | refine below_set ?_ GE146.out | refine below_set ?_ GE147.out | refine below_set ?_ GE148.out | refine below_set ?_ GE155.out | refine below_set ?_ GE164.out) | exact HB.out))⟩)
       ·skip
        refine box_step ?hg (N := 8) ?hd (cs := #[.int .i64 0, .int .i64 0, .int .i64 0, .int .i64 0, .string (⟨#[]⟩ : ByteArray), .string (⟨#[]⟩ : ByteArray)]) (t := 26) ?hr ?_; (case hd => rfl); (case hg => rfl); (case hr => first | (go_simp; done) | (go_simp; rfl))
        intro gb164 hg w65 hbox hb
        have BK164 := Aside0.mk (hbox); have GW164 := Aside0.mk ((by rw [hg]; exact (below_size (by repeat (first | (with_reducible first | exact HB.out | apply below_alloc | apply pw_below_drewN | apply below_drew1 | refine below_set ?_ GE145.out | refine below_set ?_ GE146.out | refine below_set ?_ GE147.out | refine below_set ?_ GE148.out | refine below_set ?_ GE155.out) | exact HB.out))) : w.heap.size ≤ gb164)); have GE164 := GW164; replace HB := Aside0.mk (below_step (by repeat (first | (with_reducible first | exact HB.out | apply below_alloc | apply pw_below_drewN | apply below_drew1 | refine below_set ?_ GE145.out | refine below_set ?_ GE146.out | refine below_set ?_ GE147.out | refine below_set ?_ GE148.out | refine below_set ?_ GE155.out) | exact HB.out)) hb); obtain ⟨NB145_164, NB164_145⟩ := nbp hg (pl BK145.out); replace BK145 := Aside0.mk (blk_below (pl BK145.out) hb); obtain ⟨NB146_164, NB164_146⟩ := nbp hg (pl BK146.out); replace BK146 := Aside0.mk (blk_below (pl BK146.out) hb); obtain ⟨NB147_164, NB164_147⟩ := nbp hg (pl BK147.out); replace BK147 := Aside0.mk (blk_below (pl BK147.out) hb); obtain ⟨NB148_164, NB164_148⟩ := nbp hg (pl BK148.out); replace BK148 := Aside0.mk (blk_below (pl BK148.out) hb); obtain ⟨NB155_164, NB164_155⟩ := nbp hg (pl BK155.out); replace BK155 := Aside0.mk (blk_below (pl BK155.out) hb); clear hb hbox hg
        refine hK.out _ _ ⟨(blk_cell BK145.out 0).trans rfl, (blk_cell BK145.out 1).trans rfl, (blk_cell BK145.out 2).trans rfl, (blk_cell BK145.out 3).trans rfl, (blk_cell BK145.out 4).trans rfl, (blk_cell BK145.out 5).trans rfl, (blk_cell BK146.out 0).trans rfl, (blk_cell BK146.out 1).trans rfl, (blk_cell BK146.out 2).trans rfl, (blk_cell BK146.out 3).trans rfl, (blk_cell BK146.out 4).trans rfl, (blk_cell BK146.out 5).trans rfl, (blk_cell BK155.out 0).trans rfl, (blk_cell BK155.out 1).trans rfl, (blk_cell BK155.out 2).trans rfl, (blk_cell BK155.out 3).trans rfl⟩ (fun hHeld => ?_)
        clear hK K
        refine norm_ (a' := ?_) ?_ ?_
        rotate_left
        ·show Act.put _ (some 8) _ = _
         simp only [Act.put, List.setIfInBounds_toArray, List.set_cons_zero, List.set_cons_succ, i64_w, i32_w]
         rfl
        refine one_ (i := 6) (N := some 40) #[true, true, true, true, true, true, true, true, true, true, true, false, true, false] rfl rfl (one_of HT_.out (by kernel_rfl)) (by decide) (fun K hK => ?_)
        refine goes_ Tryd.func39 (by kernel_rfl) rfl #[.agg #[.int .i64 t156, .int .i64 t157, .int .i64 t158, .int .i64 t159], .agg #[.int .i64 t151, .int .i64 t152, .int .i64 t153, .int .i64 t154], .int .i64 (-1)] (by rfl) rfl rfl (by (try simp only [List.map_toArray, List.map_cons, List.map_nil]); first | done | rfl | (simp only [List.length_drop, List.length_take]; rfl)) ?_
        with_reducible refine (weld_sum.calls t156 t157 t158 t159 t151 t152 t153 t154 (-1) t160 t161 t162 t163 _ A46.out).mono ?_
        rintro e w66 ⟨rfl, hb⟩
        refine ⟨_, rfl, ?_⟩
        replace BK145 := Aside0.mk (blk_below (pl BK145.out) hb); replace BK146 := Aside0.mk (blk_below (pl BK146.out) hb); replace BK147 := Aside0.mk (blk_below (pl BK147.out) hb); replace BK148 := Aside0.mk (blk_below (pl BK148.out) hb); replace BK155 := Aside0.mk (blk_below (pl BK155.out) hb); replace BK164 := Aside0.mk (blk_below (pl BK164.out) hb); replace HB := Aside0.mk (below_step (by repeat (first | (with_reducible first | exact HB.out | apply below_alloc | apply pw_below_drewN | apply below_drew1 | refine below_set ?_ GE145.out | refine below_set ?_ GE146.out | refine below_set ?_ GE147.out | refine below_set ?_ GE148.out | refine below_set ?_ GE155.out | refine below_set ?_ GE164.out) | exact HB.out)) hb)
        (try clear hb)
        (try clear hb2)
        (try clear hk)
        (try clear hi)
        refine hK.out _ _ ⟨(blk_cell BK145.out 0).trans rfl, (blk_cell BK145.out 1).trans rfl, (blk_cell BK145.out 2).trans rfl, (blk_cell BK145.out 3).trans rfl, (blk_cell BK145.out 4).trans rfl, (blk_cell BK145.out 5).trans rfl, (blk_cell BK146.out 0).trans rfl, (blk_cell BK146.out 1).trans rfl, (blk_cell BK146.out 2).trans rfl, (blk_cell BK146.out 3).trans rfl, (blk_cell BK146.out 4).trans rfl, (blk_cell BK146.out 5).trans rfl, (blk_cell BK155.out 0).trans rfl, (blk_cell BK155.out 1).trans rfl, (blk_cell BK155.out 2).trans rfl, (blk_cell BK155.out 3).trans rfl⟩ (fun hHeld => ?_)
        clear hK K
        refine norm_ (a' := ?_) ?_ ?_
        rotate_left
        ·show Act.put _ (some 40) _ = _
         simp only [Act.put, List.setIfInBounds_toArray, List.set_cons_zero, List.set_cons_succ, i64_w, i32_w]
         rfl
        refine pure_ (i := 11) (N := some 45) (v := ?_) (a' := ?_) #[true, true, true, true, true, true, true, true, true, true, true, true, true, false] rfl rfl (any_of HT_.out (by kernel_rfl)) (fun _ _ _ h => h) (Or.inl ⟨by rfl, ?_⟩) ?_ ?_
        rotate_left
        ·intro w'
         go_simp
         with_reducible rfl
        rotate_left
        ·simp only [Act.put, List.setIfInBounds_toArray, List.set_cons_zero, List.set_cons_succ, i64_w, i32_w]
         rfl
        exact norm_ (by simp only [putAll, Act.put, List.setIfInBounds_toArray, List.set_cons_zero, List.set_cons_succ]) (hCont (gb164) _ ⟨hHeld, (pl BK145.out), (pl BK146.out), (pl BK147.out), (pl BK148.out), (pl BK155.out), (pl BK164.out), GW164.out, GE164.out, NB145_164.out, NB164_145.out, NB146_164.out, NB164_146.out, NB147_164.out, NB164_147.out, NB148_164.out, NB164_148.out, NB155_164.out, NB164_155.out, (by repeat (first | (with_reducible first | exact HB.out | apply below_alloc | apply pw_below_drewN | apply below_drew1 | refine below_set ?_ GE145.out | refine below_set ?_ GE146.out | refine below_set ?_ GE147.out | refine below_set ?_ GE148.out | refine below_set ?_ GE155.out | refine below_set ?_ GE164.out) | exact HB.out))⟩)
      ·skip
       refine box_step ?hg (N := 8) ?hd (cs := #[.int .i64 0, .int .i64 0, .int .i64 0, .int .i64 0, .string (⟨#[]⟩ : ByteArray), .string (⟨#[]⟩ : ByteArray)]) (t := 26) ?hr ?_; (case hd => rfl); (case hg => rfl); (case hr => first | (go_simp; done) | (go_simp; rfl))
       intro gb164 hg w64 hbox hb
       have BK164 := Aside0.mk (hbox); have GW164 := Aside0.mk ((by rw [hg]; exact (below_size (by repeat (first | (with_reducible first | exact HB.out | apply below_alloc | apply pw_below_drewN | apply below_drew1 | refine below_set ?_ GE145.out | refine below_set ?_ GE146.out | refine below_set ?_ GE147.out | refine below_set ?_ GE148.out | refine below_set ?_ GE155.out) | exact HB.out))) : w.heap.size ≤ gb164)); have GE164 := GW164; replace HB := Aside0.mk (below_step (by repeat (first | (with_reducible first | exact HB.out | apply below_alloc | apply pw_below_drewN | apply below_drew1 | refine below_set ?_ GE145.out | refine below_set ?_ GE146.out | refine below_set ?_ GE147.out | refine below_set ?_ GE148.out | refine below_set ?_ GE155.out) | exact HB.out)) hb); obtain ⟨NB145_164, NB164_145⟩ := nbp hg (pl BK145.out); replace BK145 := Aside0.mk (blk_below (pl BK145.out) hb); obtain ⟨NB146_164, NB164_146⟩ := nbp hg (pl BK146.out); replace BK146 := Aside0.mk (blk_below (pl BK146.out) hb); obtain ⟨NB147_164, NB164_147⟩ := nbp hg (pl BK147.out); replace BK147 := Aside0.mk (blk_below (pl BK147.out) hb); obtain ⟨NB148_164, NB164_148⟩ := nbp hg (pl BK148.out); replace BK148 := Aside0.mk (blk_below (pl BK148.out) hb); obtain ⟨NB155_164, NB164_155⟩ := nbp hg (pl BK155.out); replace BK155 := Aside0.mk (blk_below (pl BK155.out) hb); clear hb hbox hg
       refine hK.out _ _ ⟨(blk_cell BK145.out 0).trans rfl, (blk_cell BK145.out 1).trans rfl, (blk_cell BK145.out 2).trans rfl, (blk_cell BK145.out 3).trans rfl, (blk_cell BK145.out 4).trans rfl, (blk_cell BK145.out 5).trans rfl, (blk_cell BK146.out 0).trans rfl, (blk_cell BK146.out 1).trans rfl, (blk_cell BK146.out 2).trans rfl, (blk_cell BK146.out 3).trans rfl, (blk_cell BK146.out 4).trans rfl, (blk_cell BK146.out 5).trans rfl, (blk_cell BK155.out 0).trans rfl, (blk_cell BK155.out 1).trans rfl, (blk_cell BK155.out 2).trans rfl, (blk_cell BK155.out 3).trans rfl⟩ (fun hHeld => ?_)
       clear hK K
       refine norm_ (a' := ?_) ?_ ?_
       rotate_left
       ·show Act.put _ (some 8) _ = _
        simp only [Act.put, List.setIfInBounds_toArray, List.set_cons_zero, List.set_cons_succ, i64_w, i32_w]
        rfl
       refine one_ (i := 4) (N := some 38) #[true, true, true, true, true, true, false, true, true, true, true, false, true, false] rfl rfl (one_of HT_.out (by kernel_rfl)) (by decide) (fun K hK => ?_)
       refine goes_ Tryd.func39 (by kernel_rfl) rfl #[.agg #[.int .i64 a0_0, .int .i64 a0_1, .int .i64 a0_2, .int .i64 a0_3], .agg #[.int .i64 a1_0, .int .i64 a1_1, .int .i64 a1_2, .int .i64 a1_3], .int .i64 1] (by rfl) rfl rfl (by (try simp only [List.map_toArray, List.map_cons, List.map_nil]); first | done | rfl | (simp only [List.length_drop, List.length_take]; rfl)) ?_
       with_reducible refine (weld_sum.calls a0_0 a0_1 a0_2 a0_3 a1_0 a1_1 a1_2 a1_3 1 t156 t157 t158 t159 _ A45.out).mono ?_
       rintro e w65 ⟨rfl, hb⟩
       refine ⟨_, rfl, ?_⟩
       replace BK145 := Aside0.mk (blk_below (pl BK145.out) hb); replace BK146 := Aside0.mk (blk_below (pl BK146.out) hb); replace BK147 := Aside0.mk (blk_below (pl BK147.out) hb); replace BK148 := Aside0.mk (blk_below (pl BK148.out) hb); replace BK155 := Aside0.mk (blk_below (pl BK155.out) hb); replace BK164 := Aside0.mk (blk_below (pl BK164.out) hb); replace HB := Aside0.mk (below_step (by repeat (first | (with_reducible first | exact HB.out | apply below_alloc | apply pw_below_drewN | apply below_drew1 | refine below_set ?_ GE145.out | refine below_set ?_ GE146.out | refine below_set ?_ GE147.out | refine below_set ?_ GE148.out | refine below_set ?_ GE155.out | refine below_set ?_ GE164.out) | exact HB.out)) hb)
       (try clear hb)
       (try clear hb2)
       (try clear hk)
       (try clear hi)
       refine hK.out _ _ ⟨(blk_cell BK145.out 0).trans rfl, (blk_cell BK145.out 1).trans rfl, (blk_cell BK145.out 2).trans rfl, (blk_cell BK145.out 3).trans rfl, (blk_cell BK145.out 4).trans rfl, (blk_cell BK145.out 5).trans rfl, (blk_cell BK146.out 0).trans rfl, (blk_cell BK146.out 1).trans rfl, (blk_cell BK146.out 2).trans rfl, (blk_cell BK146.out 3).trans rfl, (blk_cell BK146.out 4).trans rfl, (blk_cell BK146.out 5).trans rfl, (blk_cell BK155.out 0).trans rfl, (blk_cell BK155.out 1).trans rfl, (blk_cell BK155.out 2).trans rfl, (blk_cell BK155.out 3).trans rfl⟩ (fun hHeld => ?_)
       clear hK K
       refine norm_ (a' := ?_) ?_ ?_
       rotate_left
       ·show Act.put _ (some 38) _ = _
        simp only [Act.put, List.setIfInBounds_toArray, List.set_cons_zero, List.set_cons_succ, i64_w, i32_w]
        rfl
       refine one_ (i := 6) (N := some 40) #[true, true, true, true, true, true, true, true, true, true, true, false, true, false] rfl rfl (one_of HT_.out (by kernel_rfl)) (by decide) (fun K hK => ?_)
       refine goes_ Tryd.func39 (by kernel_rfl) rfl #[.agg #[.int .i64 t156, .int .i64 t157, .int .i64 t158, .int .i64 t159], .agg #[.int .i64 t151, .int .i64 t152, .int .i64 t153, .int .i64 t154], .int .i64 (-1)] (by rfl) rfl rfl (by (try simp only [List.map_toArray, List.map_cons, List.map_nil]); first | done | rfl | (simp only [List.length_drop, List.length_take]; rfl)) ?_
       with_reducible refine (weld_sum.calls t156 t157 t158 t159 t151 t152 t153 t154 (-1) t160 t161 t162 t163 _ A46.out).mono ?_
       rintro e w66 ⟨rfl, hb⟩
       refine ⟨_, rfl, ?_⟩
       replace BK145 := Aside0.mk (blk_below (pl BK145.out) hb); replace BK146 := Aside0.mk (blk_below (pl BK146.out) hb); replace BK147 := Aside0.mk (blk_below (pl BK147.out) hb); replace BK148 := Aside0.mk (blk_below (pl BK148.out) hb); replace BK155 := Aside0.mk (blk_below (pl BK155.out) hb); replace BK164 := Aside0.mk (blk_below (pl BK164.out) hb); replace HB := Aside0.mk (below_step (by repeat (first | (with_reducible first | exact HB.out | apply below_alloc | apply pw_below_drewN | apply below_drew1 | refine below_set ?_ GE145.out | refine below_set ?_ GE146.out | refine below_set ?_ GE147.out | refine below_set ?_ GE148.out | refine below_set ?_ GE155.out | refine below_set ?_ GE164.out) | exact HB.out)) hb)
       (try clear hb)
       (try clear hb2)
       (try clear hk)
       (try clear hi)
       refine hK.out _ _ ⟨(blk_cell BK145.out 0).trans rfl, (blk_cell BK145.out 1).trans rfl, (blk_cell BK145.out 2).trans rfl, (blk_cell BK145.out 3).trans rfl, (blk_cell BK145.out 4).trans rfl, (blk_cell BK145.out 5).trans rfl, (blk_cell BK146.out 0).trans rfl, (blk_cell BK146.out 1).trans rfl, (blk_cell BK146.out 2).trans rfl, (blk_cell BK146.out 3).trans rfl, (blk_cell BK146.out 4).trans rfl, (blk_cell BK146.out 5).trans rfl, (blk_cell BK155.out 0).trans rfl, (blk_cell BK155.out 1).trans rfl, (blk_cell BK155.out 2).trans rfl, (blk_cell BK155.out 3).trans rfl⟩ (fun hHeld => ?_)
       clear hK K
       refine norm_ (a' := ?_) ?_ ?_
       rotate_left
       ·show Act.put _ (some 40) _ = _
        simp only [Act.put, List.setIfInBounds_toArray, List.set_cons_zero, List.set_cons_succ, i64_w, i32_w]
        rfl
       refine pure_ (i := 11) (N := some 45) (v := ?_) (a' := ?_) #[true, true, true, true, true, true, true, true, true, true, true, true, true, false] rfl rfl (any_of HT_.out (by kernel_rfl)) (fun _ _ _ h => h) (Or.inl ⟨by rfl, ?_⟩) ?_ ?_
       rotate_left
       ·intro w'
        go_simp
        with_reducible rfl
       rotate_left
       ·simp only [Act.put, List.setIfInBounds_toArray, List.set_cons_zero, List.set_cons_succ, i64_w, i32_w]
        rfl
       exact norm_ (by simp only [putAll, Act.put, List.setIfInBounds_toArray, List.set_cons_zero, List.set_cons_succ]) (hCont (gb164) _ ⟨hHeld, (pl BK145.out), (pl BK146.out), (pl BK147.out), (pl BK148.out), (pl BK155.out), (pl BK164.out), GW164.out, GE164.out, NB145_164.out, NB164_145.out, NB146_164.out, NB164_146.out, NB147_164.out, NB164_147.out, NB148_164.out, NB164_148.out, NB155_164.out, NB164_155.out, (by repeat (first | (with_reducible first | exact HB.out | apply below_alloc | apply pw_below_drewN | apply below_drew1 | refine below_set ?_ GE145.out | refine below_set ?_ GE146.out | refine below_set ?_ GE147.out | refine below_set ?_ GE148.out | refine below_set ?_ GE155.out | refine below_set ?_ GE164.out) | exact HB.out))⟩)
     rintro gb164 w67 ⟨hS_, h0_, h1_, h2_, h3_, h4_, h5_, h6_, h7_, h8_, h9_, h10_, h11_, h12_, h13_, h14_, h15_, h16_, h17_, h18_⟩
     have n0_ : Aside0 (w67.heap[gb145]? = some (.cells #[.int .i64 a0_0, .int .i64 a0_1, .int .i64 a0_2, .int .i64 a0_3, .string a0_4, .string a0_5] 26 (0, 0))) := ⟨h0_⟩
     have n1_ : Aside0 (w67.heap[gb146]? = some (.cells #[.int .i64 a1_0, .int .i64 a1_1, .int .i64 a1_2, .int .i64 a1_3, .string a1_4, .string a1_5] 26 (0, 0))) := ⟨h1_⟩
     have n2_ : Aside0 (w67.heap[gb147]? = some (.cells #[.int .i64 0, .int .i64 0, .int .i64 0, .int .i64 0, .string (⟨#[]⟩ : ByteArray), .string (⟨#[]⟩ : ByteArray)] 26 (0, 0))) := ⟨h2_⟩
     have n3_ : Aside0 (w67.heap[gb148]? = some (.cells #[.int .i64 0, .int .i64 0, .int .i64 0, .int .i64 0] 24 (0, 0))) := ⟨h3_⟩
     have n4_ : Aside0 (w67.heap[gb155]? = some (.cells #[.int .i64 t151, .int .i64 t152, .int .i64 t153, .int .i64 t154] 24 (0, 0))) := ⟨h4_⟩
     have n5_ : Aside0 (w67.heap[gb164]? = some (.cells #[.int .i64 0, .int .i64 0, .int .i64 0, .int .i64 0, .string (⟨#[]⟩ : ByteArray), .string (⟨#[]⟩ : ByteArray)] 26 (0, 0))) := ⟨h5_⟩
     have n6_ : Aside0 (w.heap.size ≤ gb164) := ⟨h6_⟩
     have n7_ : Aside0 (w.heap.size ≤ gb164) := ⟨h7_⟩
     have n8_ : Aside0 (gb145 ≠ gb164) := ⟨h8_⟩
     have n9_ : Aside0 (gb164 ≠ gb145) := ⟨h9_⟩
     have n10_ : Aside0 (gb146 ≠ gb164) := ⟨h10_⟩
     have n11_ : Aside0 (gb164 ≠ gb146) := ⟨h11_⟩
     have n12_ : Aside0 (gb147 ≠ gb164) := ⟨h12_⟩
     have n13_ : Aside0 (gb164 ≠ gb147) := ⟨h13_⟩
     have n14_ : Aside0 (gb148 ≠ gb164) := ⟨h14_⟩
     have n15_ : Aside0 (gb164 ≠ gb148) := ⟨h15_⟩
     have n16_ : Aside0 (gb155 ≠ gb164) := ⟨h16_⟩
     have n17_ : Aside0 (gb164 ≠ gb155) := ⟨h17_⟩
     have n18_ : Aside0 (Below w.heap.size w w67) := ⟨h18_⟩
     clear BK145; clear BK146; clear BK147; clear BK148; clear BK155; clear HB; clear h0_ h1_ h2_ h3_ h4_ h5_ h6_ h7_ h8_ h9_ h10_ h11_ h12_ h13_ h14_ h15_ h16_ h17_ h18_; have BK145 := n0_; have BK146 := n1_; have BK147 := n2_; have BK148 := n3_; have BK155 := n4_; have BK164 := n5_; have GW164 := n6_; have GE164 := n7_; have NB145_164 := n8_; have NB164_145 := n9_; have NB146_164 := n10_; have NB164_146 := n11_; have NB147_164 := n12_; have NB164_147 := n13_; have NB148_164 := n14_; have NB164_148 := n15_; have NB155_164 := n16_; have NB164_155 := n17_; have HB := n18_; clear n0_ n1_ n2_ n3_ n4_ n5_ n6_ n7_ n8_ n9_ n10_ n11_ n12_ n13_ n14_ n15_ n16_ n17_ n18_
     have hHeld : w67.cell? ⟨gb145, 0, none⟩ = some (.int .i64 a0_0) ∧ w67.cell? ⟨gb145, 1, none⟩ = some (.int .i64 a0_1) ∧ w67.cell? ⟨gb145, 2, none⟩ = some (.int .i64 a0_2) ∧ w67.cell? ⟨gb145, 3, none⟩ = some (.int .i64 a0_3) ∧ w67.cell? ⟨gb145, 4, none⟩ = some (.string a0_4) ∧ w67.cell? ⟨gb145, 5, none⟩ = some (.string a0_5) ∧ w67.cell? ⟨gb146, 0, none⟩ = some (.int .i64 a1_0) ∧ w67.cell? ⟨gb146, 1, none⟩ = some (.int .i64 a1_1) ∧ w67.cell? ⟨gb146, 2, none⟩ = some (.int .i64 a1_2) ∧ w67.cell? ⟨gb146, 3, none⟩ = some (.int .i64 a1_3) ∧ w67.cell? ⟨gb146, 4, none⟩ = some (.string a1_4) ∧ w67.cell? ⟨gb146, 5, none⟩ = some (.string a1_5) ∧ w67.cell? ⟨gb155, 0, none⟩ = some (.int .i64 t151) ∧ w67.cell? ⟨gb155, 1, none⟩ = some (.int .i64 t152) ∧ w67.cell? ⟨gb155, 2, none⟩ = some (.int .i64 t153) ∧ w67.cell? ⟨gb155, 3, none⟩ = some (.int .i64 t154) := hS_
     refine norm_ (a' := ?_) ?_ ?_
     rotate_left
     ·simp only [putAll, Act.put, List.setIfInBounds_toArray, List.set_cons_zero, List.set_cons_succ]
      rfl
     refine one_ (i := 13) (N := none) #[true, true, true, true, true, true, true, true, true, true, true, true, true, true] rfl rfl (one_of HT_.out (by kernel_rfl)) (by decide) (fun K hK => ?_)
     have hs68 : w67.cell? ⟨gb164, 0, none⟩ = some (.int .i64 0) := (blk_cell BK164.out 0).trans rfl
     have hfs68 := blk_frozen BK164.out 0
     have hns68_0 := NB145_164.out; have hns68_1 := NB146_164.out; have hns68_2 := NB147_164.out; have hns68_3 := NB148_164.out; have hns68_4 := NB155_164.out; have hms68_0 := NB164_145.out; have hms68_1 := NB164_146.out; have hms68_2 := NB164_147.out; have hms68_3 := NB164_148.out; have hms68_4 := NB164_155.out
     have hs69 : w67.cell? ⟨gb164, 1, none⟩ = some (.int .i64 0) := (blk_cell BK164.out 1).trans rfl
     have hfs69 := blk_frozen BK164.out 1
     have hns69_0 := NB145_164.out; have hns69_1 := NB146_164.out; have hns69_2 := NB147_164.out; have hns69_3 := NB148_164.out; have hns69_4 := NB155_164.out; have hms69_0 := NB164_145.out; have hms69_1 := NB164_146.out; have hms69_2 := NB164_147.out; have hms69_3 := NB164_148.out; have hms69_4 := NB164_155.out
     have hs70 : w67.cell? ⟨gb164, 2, none⟩ = some (.int .i64 0) := (blk_cell BK164.out 2).trans rfl
     have hfs70 := blk_frozen BK164.out 2
     have hns70_0 := NB145_164.out; have hns70_1 := NB146_164.out; have hns70_2 := NB147_164.out; have hns70_3 := NB148_164.out; have hns70_4 := NB155_164.out; have hms70_0 := NB164_145.out; have hms70_1 := NB164_146.out; have hms70_2 := NB164_147.out; have hms70_3 := NB164_148.out; have hms70_4 := NB164_155.out
     have hs71 : w67.cell? ⟨gb164, 3, none⟩ = some (.int .i64 0) := (blk_cell BK164.out 3).trans rfl
     have hfs71 := blk_frozen BK164.out 3
     have hns71_0 := NB145_164.out; have hns71_1 := NB146_164.out; have hns71_2 := NB147_164.out; have hns71_3 := NB148_164.out; have hns71_4 := NB155_164.out; have hms71_0 := NB164_145.out; have hms71_1 := NB164_146.out; have hms71_2 := NB164_147.out; have hms71_3 := NB164_148.out; have hms71_4 := NB164_155.out
     have hs72 : w67.cell? ⟨gb164, 4, none⟩ = some (.string (⟨#[]⟩ : ByteArray)) := (blk_cell BK164.out 4).trans rfl
     have hfs72 := blk_frozen BK164.out 4
     have hns72_0 := NB145_164.out; have hns72_1 := NB146_164.out; have hns72_2 := NB147_164.out; have hns72_3 := NB148_164.out; have hns72_4 := NB155_164.out; have hms72_0 := NB164_145.out; have hms72_1 := NB164_146.out; have hms72_2 := NB164_147.out; have hms72_3 := NB164_148.out; have hms72_4 := NB164_155.out
     have hs73 : w67.cell? ⟨gb164, 5, none⟩ = some (.string (⟨#[]⟩ : ByteArray)) := (blk_cell BK164.out 5).trans rfl
     have hfs73 := blk_frozen BK164.out 5
     have hns73_0 := NB145_164.out; have hns73_1 := NB146_164.out; have hns73_2 := NB147_164.out; have hns73_3 := NB148_164.out; have hns73_4 := NB155_164.out; have hms73_0 := NB164_145.out; have hms73_1 := NB164_146.out; have hms73_2 := NB164_147.out; have hms73_3 := NB164_148.out; have hms73_4 := NB164_155.out
     refine skip_ (w1 := ?_) (by rfl) rfl ?_ ?_
     rotate_left
     ·go_simp
      rfl
     refine hK.out _ _ ⟨(cf NB145_164 ((cf NB145_164 ((cf NB145_164 ((cf NB145_164 ((cf NB145_164 ((cf NB145_164 (hHeld.1)))))))))))), (cf NB145_164 ((cf NB145_164 ((cf NB145_164 ((cf NB145_164 ((cf NB145_164 ((cf NB145_164 (hHeld.2.1)))))))))))), (cf NB145_164 ((cf NB145_164 ((cf NB145_164 ((cf NB145_164 ((cf NB145_164 ((cf NB145_164 (hHeld.2.2.1)))))))))))), (cf NB145_164 ((cf NB145_164 ((cf NB145_164 ((cf NB145_164 ((cf NB145_164 ((cf NB145_164 (hHeld.2.2.2.1)))))))))))), (cf NB145_164 ((cf NB145_164 ((cf NB145_164 ((cf NB145_164 ((cf NB145_164 ((cf NB145_164 (hHeld.2.2.2.2.1)))))))))))), (cf NB145_164 ((cf NB145_164 ((cf NB145_164 ((cf NB145_164 ((cf NB145_164 ((cf NB145_164 (hHeld.2.2.2.2.2.1)))))))))))), (cf NB146_164 ((cf NB146_164 ((cf NB146_164 ((cf NB146_164 ((cf NB146_164 ((cf NB146_164 (hHeld.2.2.2.2.2.2.1)))))))))))), (cf NB146_164 ((cf NB146_164 ((cf NB146_164 ((cf NB146_164 ((cf NB146_164 ((cf NB146_164 (hHeld.2.2.2.2.2.2.2.1)))))))))))), (cf NB146_164 ((cf NB146_164 ((cf NB146_164 ((cf NB146_164 ((cf NB146_164 ((cf NB146_164 (hHeld.2.2.2.2.2.2.2.2.1)))))))))))), (cf NB146_164 ((cf NB146_164 ((cf NB146_164 ((cf NB146_164 ((cf NB146_164 ((cf NB146_164 (hHeld.2.2.2.2.2.2.2.2.2.1)))))))))))), (cf NB146_164 ((cf NB146_164 ((cf NB146_164 ((cf NB146_164 ((cf NB146_164 ((cf NB146_164 (hHeld.2.2.2.2.2.2.2.2.2.2.1)))))))))))), (cf NB146_164 ((cf NB146_164 ((cf NB146_164 ((cf NB146_164 ((cf NB146_164 ((cf NB146_164 (hHeld.2.2.2.2.2.2.2.2.2.2.2.1)))))))))))), (cf NB155_164 ((cf NB155_164 ((cf NB155_164 ((cf NB155_164 ((cf NB155_164 ((cf NB155_164 (hHeld.2.2.2.2.2.2.2.2.2.2.2.2.1)))))))))))), (cf NB155_164 ((cf NB155_164 ((cf NB155_164 ((cf NB155_164 ((cf NB155_164 ((cf NB155_164 (hHeld.2.2.2.2.2.2.2.2.2.2.2.2.2.1)))))))))))), (cf NB155_164 ((cf NB155_164 ((cf NB155_164 ((cf NB155_164 ((cf NB155_164 ((cf NB155_164 (hHeld.2.2.2.2.2.2.2.2.2.2.2.2.2.2.1)))))))))))), (cf NB155_164 ((cf NB155_164 ((cf NB155_164 ((cf NB155_164 ((cf NB155_164 ((cf NB155_164 (hHeld.2.2.2.2.2.2.2.2.2.2.2.2.2.2.2))))))))))))⟩ (fun hHeld => ?_)
     clear hK K
     refine done_ (done_of HT_.out (by kernel_rfl)) ?_
     have hnb74 := NB145_164.out; have hnc74 := NB164_145.out; obtain ⟨hcz75_0, hcz75_1, hcz75_2, hcz75_3, hcz75_4, hcz75_5⟩ := c6 BK145.out; obtain ⟨hfz75_0, hfz75_1, hfz75_2, hfz75_3, hfz75_4, hfz75_5⟩ := f6 BK145.out
     go_upto_if 49 with (fail)
     go_cut [] (fun wc => ∃ (kq : Nat) (x165004_46 : ByteArray), Aside0 (weld_both.j1 kq a0_0 a0_1 a0_2 a0_3 a0_4 a0_5 a1_0 a1_1 a1_2 a1_3 a1_4 a1_5 t151 t152 t153 t154 t160 t161 t162 t163 x165004_46 a1_5 = some (r1, r2, r3, r4, r5, r6, r7, r8, r9, r10, r11)) ∧ Aside0 (kq ≤ kj2) ∧ Aside0 (wc.heap[gb145]? = some (.cells #[.int .i64 a0_0, .int .i64 a0_1, .int .i64 a0_2, .int .i64 a0_3, .string a0_4, .string a0_5] 26 (0, 0))) ∧ Aside0 (wc.heap[gb146]? = some (.cells #[.int .i64 a1_0, .int .i64 a1_1, .int .i64 a1_2, .int .i64 a1_3, .string a1_4, .string a1_5] 26 (0, 0))) ∧ Aside0 (wc.heap[gb147]? = some (.cells #[.int .i64 0, .int .i64 0, .int .i64 0, .int .i64 0, .string (⟨#[]⟩ : ByteArray), .string (⟨#[]⟩ : ByteArray)] 26 (0, 0))) ∧ Aside0 (wc.heap[gb148]? = some (.cells #[.int .i64 0, .int .i64 0, .int .i64 0, .int .i64 0] 24 (0, 0))) ∧ Aside0 (wc.heap[gb155]? = some (.cells #[.int .i64 t151, .int .i64 t152, .int .i64 t153, .int .i64 t154] 24 (0, 0))) ∧ Aside0 (wc.heap[gb164]? = some (.cells #[.int .i64 t160, .int .i64 t161, .int .i64 t162, .int .i64 t163, .string x165004_46, .string a1_5] 26 (0, 0))) ∧ Aside0 (Below w.heap.size w wc))
     case first =>
      have H := HC47.out; clear HC47
      by_cases c76 : a0_0 < 3
      ·rw [if_pos c76] at H
       have c76b0 : decide (a0_0 < 3) = true := decide_eq_true c76
       clear c76
       (first | rw [c76b0] | (simp only [i64_w, i32_w]; rw [c76b0]) | skip)
       by_cases c77 : a0_4.size + a1_4.size ≤ 9223372036854775807
       ·rw [if_pos c77] at H
        have c77b0 := eq_true c77
        have c77b1 : decide (a0_4.size + a1_4.size ≤ 9223372036854775807) = true := decide_eq_true c77
        try have c77b2 : (9223372036854775807 < a0_4.size + a1_4.size) = False := eq_false (Nat.not_lt.2 c77)
        replace H := Option.bind_eq_some_iff.mp H
        obtain ⟨t165, A780, H⟩ := H
        replace H : (weld_both.j1 kj2 a0_0 a0_1 a0_2 a0_3 a0_4 a0_5 a1_0 a1_1 a1_2 a1_3 a1_4 a1_5 t151 t152 t153 t154 t160 t161 t162 t163 t165 a1_5) = some (r1, r2, r3, r4, r5, r6, r7, r8, r9, r10, r11) := H
        have A78 := Aside0.mk A780; clear A780; have H' := Aside0.mk H; clear H; have hnb79 := NB145_146.out; have hnc79 := NB146_145.out; have hnb80 := NB145_147.out; have hnc80 := NB147_145.out; have hnb81 := NB145_148.out; have hnc81 := NB148_145.out; have hnb82 := NB145_155.out; have hnc82 := NB155_145.out; have hnb83 := NB145_164.out; have hnc83 := NB164_145.out; obtain ⟨hcz84_0, hcz84_1, hcz84_2, hcz84_3, hcz84_4, hcz84_5⟩ := c6 BK145.out; obtain ⟨hfz84_0, hfz84_1, hfz84_2, hfz84_3, hfz84_4, hfz84_5⟩ := f6 BK145.out; have hnb85 := NB146_147.out; have hnc85 := NB147_146.out; have hnb86 := NB146_148.out; have hnc86 := NB148_146.out; have hnb87 := NB146_155.out; have hnc87 := NB155_146.out; have hnb88 := NB146_164.out; have hnc88 := NB164_146.out; obtain ⟨hcz89_0, hcz89_1, hcz89_2, hcz89_3, hcz89_4, hcz89_5⟩ := c6 BK146.out; obtain ⟨hfz89_0, hfz89_1, hfz89_2, hfz89_3, hfz89_4, hfz89_5⟩ := f6 BK146.out
        go_wp2_with (first | ((with_reducible refine gate_callee (f := 40) rfl ?_); refine goesL_ (some 55) rfl rfl Tryd.func40 (by kernel_rfl) rfl #[.string (a0_4 ++ a1_4)] rfl (by (try simp only [List.map_toArray, List.map_cons, List.map_nil]); first | done | rfl | (simp only [List.length_drop, List.length_take]; rfl)) ?_; (with_reducible refine (weld_head.calls (a0_4 ++ a1_4) t165 _ A78.out).mono ?_); rintro e w90 ⟨rfl, hb⟩; refine ⟨_, rfl, ?_⟩; replace BK145 := Aside0.mk (blk_below (g := gb145) (o := .cells #[.int .i64 a0_0, .int .i64 a0_1, .int .i64 a0_2, .int .i64 a0_3, .string a0_4, .string a0_5] 26 (0, 0)) (by refine pl ?_; refine blk_far ?_ NB145_164.out _; refine pl ?_; refine blk_far ?_ NB145_164.out _; refine pl ?_; refine blk_far ?_ NB145_164.out _; refine pl ?_; refine blk_far ?_ NB145_164.out _; refine pl ?_; refine blk_far ?_ NB145_164.out _; refine pl ?_; refine blk_far ?_ NB145_164.out _; refine pl ?_; exact BK145.out) hb); replace BK146 := Aside0.mk (blk_below (g := gb146) (o := .cells #[.int .i64 a1_0, .int .i64 a1_1, .int .i64 a1_2, .int .i64 a1_3, .string a1_4, .string a1_5] 26 (0, 0)) (by refine pl ?_; refine blk_far ?_ NB146_164.out _; refine pl ?_; refine blk_far ?_ NB146_164.out _; refine pl ?_; refine blk_far ?_ NB146_164.out _; refine pl ?_; refine blk_far ?_ NB146_164.out _; refine pl ?_; refine blk_far ?_ NB146_164.out _; refine pl ?_; refine blk_far ?_ NB146_164.out _; refine pl ?_; exact BK146.out) hb); replace BK147 := Aside0.mk (blk_below (g := gb147) (o := .cells #[.int .i64 0, .int .i64 0, .int .i64 0, .int .i64 0, .string (⟨#[]⟩ : ByteArray), .string (⟨#[]⟩ : ByteArray)] 26 (0, 0)) (by refine pl ?_; refine blk_far ?_ NB147_164.out _; refine pl ?_; refine blk_far ?_ NB147_164.out _; refine pl ?_; refine blk_far ?_ NB147_164.out _; refine pl ?_; refine blk_far ?_ NB147_164.out _; refine pl ?_; refine blk_far ?_ NB147_164.out _; refine pl ?_; refine blk_far ?_ NB147_164.out _; refine pl ?_; exact BK147.out) hb); replace BK148 := Aside0.mk (blk_below (g := gb148) (o := .cells #[.int .i64 0, .int .i64 0, .int .i64 0, .int .i64 0] 24 (0, 0)) (by refine pl ?_; refine blk_far ?_ NB148_164.out _; refine pl ?_; refine blk_far ?_ NB148_164.out _; refine pl ?_; refine blk_far ?_ NB148_164.out _; refine pl ?_; refine blk_far ?_ NB148_164.out _; refine pl ?_; refine blk_far ?_ NB148_164.out _; refine pl ?_; refine blk_far ?_ NB148_164.out _; refine pl ?_; exact BK148.out) hb); replace BK155 := Aside0.mk (blk_below (g := gb155) (o := .cells #[.int .i64 t151, .int .i64 t152, .int .i64 t153, .int .i64 t154] 24 (0, 0)) (by refine pl ?_; refine blk_far ?_ NB155_164.out _; refine pl ?_; refine blk_far ?_ NB155_164.out _; refine pl ?_; refine blk_far ?_ NB155_164.out _; refine pl ?_; refine blk_far ?_ NB155_164.out _; refine pl ?_; refine blk_far ?_ NB155_164.out _; refine pl ?_; refine blk_far ?_ NB155_164.out _; refine pl ?_; exact BK155.out) hb); replace BK164 := Aside0.mk (blk_below (g := gb164) (o := .cells #[.int .i64 t160, .int .i64 t161, .int .i64 t162, .int .i64 t163, .string a0_4, .string a1_5] 26 (0, 0)) (by refine pl ?_; refine blk_put (cs := #[.int .i64 t160, .int .i64 t161, .int .i64 t162, .int .i64 t163, .string a0_4, .string (⟨#[]⟩ : ByteArray)]) ?_ 5 _ rfl; refine pl ?_; refine blk_put (cs := #[.int .i64 t160, .int .i64 t161, .int .i64 t162, .int .i64 t163, .string (⟨#[]⟩ : ByteArray), .string (⟨#[]⟩ : ByteArray)]) ?_ 4 _ rfl; refine pl ?_; refine blk_put (cs := #[.int .i64 t160, .int .i64 t161, .int .i64 t162, .int .i64 0, .string (⟨#[]⟩ : ByteArray), .string (⟨#[]⟩ : ByteArray)]) ?_ 3 _ rfl; refine pl ?_; refine blk_put (cs := #[.int .i64 t160, .int .i64 t161, .int .i64 0, .int .i64 0, .string (⟨#[]⟩ : ByteArray), .string (⟨#[]⟩ : ByteArray)]) ?_ 2 _ rfl; refine pl ?_; refine blk_put (cs := #[.int .i64 t160, .int .i64 0, .int .i64 0, .int .i64 0, .string (⟨#[]⟩ : ByteArray), .string (⟨#[]⟩ : ByteArray)]) ?_ 1 _ rfl; refine pl ?_; refine blk_put (cs := #[.int .i64 0, .int .i64 0, .int .i64 0, .int .i64 0, .string (⟨#[]⟩ : ByteArray), .string (⟨#[]⟩ : ByteArray)]) ?_ 0 _ rfl; refine pl ?_; exact BK164.out) hb); replace HB := Aside0.mk (below_step (by repeat (first | (with_reducible first | exact HB.out | apply below_alloc | apply pw_below_drewN | apply below_drew1 | refine below_set ?_ GE145.out | refine below_set ?_ GE146.out | refine below_set ?_ GE147.out | refine below_set ?_ GE148.out | refine below_set ?_ GE155.out | refine below_set ?_ GE164.out) | exact HB.out)) hb); (try clear hb); (try clear hb2); (try clear hk); (try clear hi); have hnb91 := NB164_147.out; have hnc91 := NB147_164.out; have hnb92 := NB164_148.out; have hnc92 := NB148_164.out; have hnb93 := NB164_155.out; have hnc93 := NB155_164.out; obtain ⟨hcz94_0, hcz94_1, hcz94_2, hcz94_3, hcz94_4, hcz94_5⟩ := c6 BK164.out; obtain ⟨hfz94_0, hfz94_1, hfz94_2, hfz94_3, hfz94_4, hfz94_5⟩ := f6 BK164.out))
        go_meet
        case rel => exact ⟨_, (t165), H', ⟨by have := HJ2.out; first | omega | exact Nat.le_refl _⟩, ⟨by refine pl ?_; refine blk_far ?_ NB145_164.out _; refine pl ?_; exact BK145.out⟩, ⟨by refine pl ?_; refine blk_far ?_ NB146_164.out _; refine pl ?_; exact BK146.out⟩, ⟨by refine pl ?_; refine blk_far ?_ NB147_164.out _; refine pl ?_; exact BK147.out⟩, ⟨by refine pl ?_; refine blk_far ?_ NB148_164.out _; refine pl ?_; exact BK148.out⟩, ⟨by refine pl ?_; refine blk_far ?_ NB155_164.out _; refine pl ?_; exact BK155.out⟩, ⟨by refine pl ?_; refine blk_put (cs := #[.int .i64 t160, .int .i64 t161, .int .i64 t162, .int .i64 t163, .string a0_4, .string a1_5]) ?_ 4 _ rfl; refine pl ?_; exact BK164.out⟩, ⟨by repeat (first | (with_reducible first | exact HB.out | apply below_alloc | apply pw_below_drewN | apply below_drew1 | refine below_set ?_ GE145.out | refine below_set ?_ GE146.out | refine below_set ?_ GE147.out | refine below_set ?_ GE148.out | refine below_set ?_ GE155.out | refine below_set ?_ GE164.out) | exact HB.out)⟩⟩
       ·rw [if_neg c77] at H
        exact absurd H (by simp)
      ·rw [if_neg c76] at H
       have c76b0 : decide (a0_0 < 3) = false := decide_eq_false c76
       clear c76
       (first | rw [c76b0] | (simp only [i64_w, i32_w]; rw [c76b0]) | skip)
       have H' := Aside0.mk H; clear H
       go_wp2
       go_meet
       case rel => exact ⟨_, (a0_4), H', ⟨by have := HJ2.out; first | omega | exact Nat.le_refl _⟩, ⟨by refine pl ?_; refine blk_far ?_ NB145_164.out _; refine pl ?_; refine blk_far ?_ NB145_164.out _; refine pl ?_; refine blk_far ?_ NB145_164.out _; refine pl ?_; refine blk_far ?_ NB145_164.out _; refine pl ?_; refine blk_far ?_ NB145_164.out _; refine pl ?_; refine blk_far ?_ NB145_164.out _; refine pl ?_; exact BK145.out⟩, ⟨by refine pl ?_; refine blk_far ?_ NB146_164.out _; refine pl ?_; refine blk_far ?_ NB146_164.out _; refine pl ?_; refine blk_far ?_ NB146_164.out _; refine pl ?_; refine blk_far ?_ NB146_164.out _; refine pl ?_; refine blk_far ?_ NB146_164.out _; refine pl ?_; refine blk_far ?_ NB146_164.out _; refine pl ?_; exact BK146.out⟩, ⟨by refine pl ?_; refine blk_far ?_ NB147_164.out _; refine pl ?_; refine blk_far ?_ NB147_164.out _; refine pl ?_; refine blk_far ?_ NB147_164.out _; refine pl ?_; refine blk_far ?_ NB147_164.out _; refine pl ?_; refine blk_far ?_ NB147_164.out _; refine pl ?_; refine blk_far ?_ NB147_164.out _; refine pl ?_; exact BK147.out⟩, ⟨by refine pl ?_; refine blk_far ?_ NB148_164.out _; refine pl ?_; refine blk_far ?_ NB148_164.out _; refine pl ?_; refine blk_far ?_ NB148_164.out _; refine pl ?_; refine blk_far ?_ NB148_164.out _; refine pl ?_; refine blk_far ?_ NB148_164.out _; refine pl ?_; refine blk_far ?_ NB148_164.out _; refine pl ?_; exact BK148.out⟩, ⟨by refine pl ?_; refine blk_far ?_ NB155_164.out _; refine pl ?_; refine blk_far ?_ NB155_164.out _; refine pl ?_; refine blk_far ?_ NB155_164.out _; refine pl ?_; refine blk_far ?_ NB155_164.out _; refine pl ?_; refine blk_far ?_ NB155_164.out _; refine pl ?_; refine blk_far ?_ NB155_164.out _; refine pl ?_; exact BK155.out⟩, ⟨by refine pl ?_; refine blk_put (cs := #[.int .i64 t160, .int .i64 t161, .int .i64 t162, .int .i64 t163, .string a0_4, .string (⟨#[]⟩ : ByteArray)]) ?_ 5 _ rfl; refine pl ?_; refine blk_put (cs := #[.int .i64 t160, .int .i64 t161, .int .i64 t162, .int .i64 t163, .string (⟨#[]⟩ : ByteArray), .string (⟨#[]⟩ : ByteArray)]) ?_ 4 _ rfl; refine pl ?_; refine blk_put (cs := #[.int .i64 t160, .int .i64 t161, .int .i64 t162, .int .i64 0, .string (⟨#[]⟩ : ByteArray), .string (⟨#[]⟩ : ByteArray)]) ?_ 3 _ rfl; refine pl ?_; refine blk_put (cs := #[.int .i64 t160, .int .i64 t161, .int .i64 0, .int .i64 0, .string (⟨#[]⟩ : ByteArray), .string (⟨#[]⟩ : ByteArray)]) ?_ 2 _ rfl; refine pl ?_; refine blk_put (cs := #[.int .i64 t160, .int .i64 0, .int .i64 0, .int .i64 0, .string (⟨#[]⟩ : ByteArray), .string (⟨#[]⟩ : ByteArray)]) ?_ 1 _ rfl; refine pl ?_; refine blk_put (cs := #[.int .i64 0, .int .i64 0, .int .i64 0, .int .i64 0, .string (⟨#[]⟩ : ByteArray), .string (⟨#[]⟩ : ByteArray)]) ?_ 0 _ rfl; refine pl ?_; exact BK164.out⟩, ⟨by repeat (first | (with_reducible first | exact HB.out | apply below_alloc | apply pw_below_drewN | apply below_drew1 | refine below_set ?_ GE145.out | refine below_set ?_ GE146.out | refine below_set ?_ GE147.out | refine below_set ?_ GE148.out | refine below_set ?_ GE155.out | refine below_set ?_ GE164.out) | exact HB.out)⟩⟩
     case rest =>
      clear HC47; (try clear p2); (try clear c3); (try clear c4); (try clear c7); (try clear c8); (try clear c9); (try clear c39); (try clear c40); (try clear c74); (try clear c76); (try clear c76b0); (try clear c77); (try clear c77b0); (try clear c77b1); (try clear c77b2); (try clear c79); (try clear c80); (try clear c81); (try clear c82); (try clear c83); (try clear c85); (try clear c86); (try clear c87); (try clear c88); (try clear c91); (try clear c92); (try clear c93); (try clear hcz75_0); (try clear hcz75_1); (try clear hcz75_2); (try clear hcz75_3); (try clear hcz75_4); (try clear hcz75_5); (try clear hcz84_0); (try clear hcz84_1); (try clear hcz84_2); (try clear hcz84_3); (try clear hcz84_4); (try clear hcz84_5); (try clear hcz89_0); (try clear hcz89_1); (try clear hcz89_2); (try clear hcz89_3); (try clear hcz89_4); (try clear hcz89_5); (try clear hcz94_0); (try clear hcz94_1); (try clear hcz94_2); (try clear hcz94_3); (try clear hcz94_4); (try clear hcz94_5); (try clear hfz75_0); (try clear hfz75_1); (try clear hfz75_2); (try clear hfz75_3); (try clear hfz75_4); (try clear hfz75_5); (try clear hfz84_0); (try clear hfz84_1); (try clear hfz84_2); (try clear hfz84_3); (try clear hfz84_4); (try clear hfz84_5); (try clear hfz89_0); (try clear hfz89_1); (try clear hfz89_2); (try clear hfz89_3); (try clear hfz89_4); (try clear hfz89_5); (try clear hfz94_0); (try clear hfz94_1); (try clear hfz94_2); (try clear hfz94_3); (try clear hfz94_4); (try clear hfz94_5)
      obtain ⟨kq, x165004_46, HA, HJ46, BK145, BK146, BK147, BK148, BK155, BK164, HB⟩ := hcut
      cases kq with
      | zero => exact absurd HA.out (by simp [weld_both.j1])
      | succ kj46 =>
       have H := HA.out; clear HA
       simp only [weld_both.j1] at H
       by_cases c95 : a1_0 < 3
       ·rw [if_pos c95] at H
        have c95b0 : decide (a1_0 < 3) = true := decide_eq_true c95
        clear c95
        by_cases c96 : a0_5.size + a1_5.size ≤ 9223372036854775807
        ·rw [if_pos c96] at H
         have c96b0 := eq_true c96
         have c96b1 : decide (a0_5.size + a1_5.size ≤ 9223372036854775807) = true := decide_eq_true c96
         try have c96b2 : (9223372036854775807 < a0_5.size + a1_5.size) = False := eq_false (Nat.not_lt.2 c96)
         replace H := Option.bind_eq_some_iff.mp H
         obtain ⟨t166, A970, H⟩ := H
         replace H : ((weld_Valid.f kj46 t160 t161 t162 t163 x165004_46 t166).bind fun t167 => (if t167 = true then (some (t160, t161, t162, t163, x165004_46, t166, t151, t152, t153, t154, 0)) else (some (0, 0, 0, 0, (⟨#[]⟩ : ByteArray), (⟨#[]⟩ : ByteArray), 0, 0, 0, 0, 50)))) = some (r1, r2, r3, r4, r5, r6, r7, r8, r9, r10, r11) := H
         have A97 := Aside0.mk A970; clear A970
         replace H := Option.bind_eq_some_iff.mp H
         obtain ⟨t167, A980, H⟩ := H
         replace H : (if t167 = true then (some (t160, t161, t162, t163, x165004_46, t166, t151, t152, t153, t154, 0)) else (some (0, 0, 0, 0, (⟨#[]⟩ : ByteArray), (⟨#[]⟩ : ByteArray), 0, 0, 0, 0, 50))) = some (r1, r2, r3, r4, r5, r6, r7, r8, r9, r10, r11) := H
         have A98 := Aside0.mk A980; clear A980
         by_cases c99 : t167 = true
         ·subst c99
          have H1 : (some (t160, t161, t162, t163, x165004_46, t166, t151, t152, t153, t154, 0)) = some (r1, r2, r3, r4, r5, r6, r7, r8, r9, r10, r11) := by rw [if_pos rfl] at H; exact H
          clear H; have H := H1; clear H1
          simp only [Option.some.injEq, Prod.mk.injEq] at H
          obtain ⟨rfl, rfl, rfl, rfl, rfl, rfl, rfl, rfl, rfl, rfl, rfl⟩ := H
          have hnb100 := NB146_145.out; have hnc100 := NB145_146.out; have hnb101 := NB146_147.out; have hnc101 := NB147_146.out; have hnb102 := NB146_148.out; have hnc102 := NB148_146.out; have hnb103 := NB146_155.out; have hnc103 := NB155_146.out; have hnb104 := NB146_164.out; have hnc104 := NB164_146.out; obtain ⟨hcz105_0, hcz105_1, hcz105_2, hcz105_3, hcz105_4, hcz105_5⟩ := c6 BK146.out; obtain ⟨hfz105_0, hfz105_1, hfz105_2, hfz105_3, hfz105_4, hfz105_5⟩ := f6 BK146.out; have hnb106 := NB145_147.out; have hnc106 := NB147_145.out; have hnb107 := NB145_148.out; have hnc107 := NB148_145.out; have hnb108 := NB145_155.out; have hnc108 := NB155_145.out; have hnb109 := NB145_164.out; have hnc109 := NB164_145.out; obtain ⟨hcz110_0, hcz110_1, hcz110_2, hcz110_3, hcz110_4, hcz110_5⟩ := c6 BK145.out; obtain ⟨hfz110_0, hfz110_1, hfz110_2, hfz110_3, hfz110_4, hfz110_5⟩ := f6 BK145.out
          try go_wp2_with (first | ((with_reducible refine gate_callee (f := 41) rfl ?_); refine goesL_ (some 66) rfl rfl Tryd.func41 (by kernel_rfl) rfl #[.string (a0_5 ++ a1_5)] rfl (by (try simp only [List.map_toArray, List.map_cons, List.map_nil]); first | done | rfl | (simp only [List.length_drop, List.length_take]; rfl)) ?_; (with_reducible refine (weld_tail.calls (a0_5 ++ a1_5) t166 _ A97.out).mono ?_); rintro e w111 ⟨rfl, hb⟩; refine ⟨_, rfl, ?_⟩; replace BK145 := Aside0.mk (blk_below (pl BK145.out) hb); replace BK146 := Aside0.mk (blk_below (pl BK146.out) hb); replace BK147 := Aside0.mk (blk_below (pl BK147.out) hb); replace BK148 := Aside0.mk (blk_below (pl BK148.out) hb); replace BK155 := Aside0.mk (blk_below (pl BK155.out) hb); replace BK164 := Aside0.mk (blk_below (pl BK164.out) hb); replace HB := Aside0.mk (below_step (by repeat (first | (with_reducible first | exact HB.out | apply below_alloc | apply pw_below_drewN | apply below_drew1 | refine below_set ?_ GE145.out | refine below_set ?_ GE146.out | refine below_set ?_ GE147.out | refine below_set ?_ GE148.out | refine below_set ?_ GE155.out | refine below_set ?_ GE164.out) | exact HB.out)) hb); (try clear hb); (try clear hb2); (try clear hk); (try clear hi); have hnb112 := NB164_147.out; have hnc112 := NB147_164.out; have hnb113 := NB164_148.out; have hnc113 := NB148_164.out; have hnb114 := NB164_155.out; have hnc114 := NB155_164.out; obtain ⟨hcz115_0, hcz115_1, hcz115_2, hcz115_3, hcz115_4, hcz115_5⟩ := c6 BK164.out; obtain ⟨hfz115_0, hfz115_1, hfz115_2, hfz115_3, hfz115_4, hfz115_5⟩ := f6 BK164.out) | ((with_reducible refine gate_callee (f := 11) rfl ?_); refine goesL_ (some 69) rfl rfl Tryd.func11 (by kernel_rfl) rfl #[.agg #[.int .i64 t160, .int .i64 t161, .int .i64 t162, .int .i64 t163, .string x165004_46, .string t166]] rfl (by (try simp only [List.map_toArray, List.map_cons, List.map_nil]); first | done | rfl | (simp only [List.length_drop, List.length_take]; rfl)) ?_; (with_reducible refine (weld_Valid.calls kj46 t160 t161 t162 t163 x165004_46 t166 true _ ?side1 A98.out).mono ?_); (case side1 => first | (with_reducible exact HG.out) | exact Glob.Globs_below HG.out (by repeat (first | (with_reducible first | exact HB.out | apply below_alloc | apply pw_below_drewN | apply below_drew1 | refine below_set ?_ GE145.out | refine below_set ?_ GE146.out | refine below_set ?_ GE147.out | refine below_set ?_ GE148.out | refine below_set ?_ GE155.out | refine below_set ?_ GE164.out) | exact HB.out))); rintro e w116 ⟨rfl, hb⟩; refine ⟨_, rfl, ?_⟩; replace BK145 := Aside0.mk (blk_below (g := gb145) (o := .cells #[.int .i64 a0_0, .int .i64 a0_1, .int .i64 a0_2, .int .i64 a0_3, .string a0_4, .string a0_5] 26 (0, 0)) (by refine pl ?_; refine blk_far ?_ NB145_164.out _; refine pl ?_; exact BK145.out) hb); replace BK146 := Aside0.mk (blk_below (g := gb146) (o := .cells #[.int .i64 a1_0, .int .i64 a1_1, .int .i64 a1_2, .int .i64 a1_3, .string a1_4, .string a1_5] 26 (0, 0)) (by refine pl ?_; refine blk_far ?_ NB146_164.out _; refine pl ?_; exact BK146.out) hb); replace BK147 := Aside0.mk (blk_below (g := gb147) (o := .cells #[.int .i64 0, .int .i64 0, .int .i64 0, .int .i64 0, .string (⟨#[]⟩ : ByteArray), .string (⟨#[]⟩ : ByteArray)] 26 (0, 0)) (by refine pl ?_; refine blk_far ?_ NB147_164.out _; refine pl ?_; exact BK147.out) hb); replace BK148 := Aside0.mk (blk_below (g := gb148) (o := .cells #[.int .i64 0, .int .i64 0, .int .i64 0, .int .i64 0] 24 (0, 0)) (by refine pl ?_; refine blk_far ?_ NB148_164.out _; refine pl ?_; exact BK148.out) hb); replace BK155 := Aside0.mk (blk_below (g := gb155) (o := .cells #[.int .i64 t151, .int .i64 t152, .int .i64 t153, .int .i64 t154] 24 (0, 0)) (by refine pl ?_; refine blk_far ?_ NB155_164.out _; refine pl ?_; exact BK155.out) hb); replace BK164 := Aside0.mk (blk_below (g := gb164) (o := .cells #[.int .i64 t160, .int .i64 t161, .int .i64 t162, .int .i64 t163, .string x165004_46, .string t166] 26 (0, 0)) (by refine pl ?_; refine blk_put (cs := #[.int .i64 t160, .int .i64 t161, .int .i64 t162, .int .i64 t163, .string x165004_46, .string a1_5]) ?_ 5 _ rfl; refine pl ?_; exact BK164.out) hb); replace HB := Aside0.mk (below_step (by repeat (first | (with_reducible first | exact HB.out | apply below_alloc | apply pw_below_drewN | apply below_drew1 | refine below_set ?_ GE145.out | refine below_set ?_ GE146.out | refine below_set ?_ GE147.out | refine below_set ?_ GE148.out | refine below_set ?_ GE155.out | refine below_set ?_ GE164.out) | exact HB.out)) hb); (try clear hb); (try clear hb2); (try clear hk); (try clear hi)))
          replace BK145 := Aside0.mk (blk_drew BK145.out); replace BK146 := Aside0.mk (blk_drew BK146.out); replace BK147 := Aside0.mk (blk_drew BK147.out); replace BK148 := Aside0.mk (blk_drew BK148.out); replace BK155 := Aside0.mk (blk_drew BK155.out); replace BK164 := Aside0.mk (blk_drew BK164.out); replace HB := Aside0.mk (below_drew1 HB.out)
          refine start_ (n := 5) (S := fun w' => w'.cell? ⟨gb164, 0, none⟩ = some (.int .i64 t160) ∧ w'.cell? ⟨gb164, 1, none⟩ = some (.int .i64 t161) ∧ w'.cell? ⟨gb164, 2, none⟩ = some (.int .i64 t162) ∧ w'.cell? ⟨gb164, 3, none⟩ = some (.int .i64 t163) ∧ w'.cell? ⟨gb164, 4, none⟩ = some (.string x165004_46) ∧ w'.cell? ⟨gb164, 5, none⟩ = some (.string t166) ∧ w'.cell? ⟨gb155, 0, none⟩ = some (.int .i64 t151) ∧ w'.cell? ⟨gb155, 1, none⟩ = some (.int .i64 t152) ∧ w'.cell? ⟨gb155, 2, none⟩ = some (.int .i64 t153) ∧ w'.cell? ⟨gb155, 3, none⟩ = some (.int .i64 t154)) (ds := []) #[false, false, false, false, false] (by kernel_rfl) rfl rfl ⟨(blk_cell BK164.out 0).trans rfl, (blk_cell BK164.out 1).trans rfl, (blk_cell BK164.out 2).trans rfl, (blk_cell BK164.out 3).trans rfl, (blk_cell BK164.out 4).trans rfl, (blk_cell BK164.out 5).trans rfl, (blk_cell BK155.out 0).trans rfl, (blk_cell BK155.out 1).trans rfl, (blk_cell BK155.out 2).trans rfl, (blk_cell BK155.out 3).trans rfl⟩ (fun hHeld => ?_)
          generalize w116.drew = w117 at BK145 BK146 BK147 BK148 BK155 BK164 HB hHeld ⊢
          refine take_ (i := 0) (N := some 73) (v := ?_) (a' := ?_) #[true, false, false, false, false] rfl rfl (by kernel_rfl) (fun _ _ _ h => h) (Or.inl ⟨by rfl, ?_⟩) hHeld ?_ ?_
          rotate_left
          ·rintro w' ⟨s0, s1, s2, s3, s4, s5, s6, s7, s8, s9⟩
           go_simp
           with_reducible rfl
          rotate_left
          ·simp only [Act.put, List.setIfInBounds_toArray, List.set_cons_zero, List.set_cons_succ, i64_w, i32_w]
           rfl
          refine take_ (i := 1) (N := some 74) (v := ?_) (a' := ?_) #[true, true, false, false, false] rfl rfl (by kernel_rfl) (fun _ _ _ h => h) (Or.inl ⟨by rfl, ?_⟩) hHeld ?_ ?_
          rotate_left
          ·rintro w' ⟨s0, s1, s2, s3, s4, s5, s6, s7, s8, s9⟩
           go_simp
           with_reducible rfl
          rotate_left
          ·simp only [Act.put, List.setIfInBounds_toArray, List.set_cons_zero, List.set_cons_succ, i64_w, i32_w]
           rfl
          refine one_ (i := 2) (N := none) #[true, true, true, false, false] rfl rfl (by kernel_rfl) (by decide) (fun K hK => ?_)
          have hs118 : w117.cell? ⟨gb147, 0, none⟩ = some (.int .i64 0) := (blk_cell BK147.out 0).trans rfl
          have hfs118 := blk_frozen BK147.out 0
          have hns118_0 := NB145_147.out; have hns118_1 := NB146_147.out; have hns118_3 := NB148_147.out; have hns118_4 := NB155_147.out; have hns118_5 := NB164_147.out; have hms118_0 := NB147_145.out; have hms118_1 := NB147_146.out; have hms118_3 := NB147_148.out; have hms118_4 := NB147_155.out; have hms118_5 := NB147_164.out
          have hs119 : w117.cell? ⟨gb147, 1, none⟩ = some (.int .i64 0) := (blk_cell BK147.out 1).trans rfl
          have hfs119 := blk_frozen BK147.out 1
          have hns119_0 := NB145_147.out; have hns119_1 := NB146_147.out; have hns119_3 := NB148_147.out; have hns119_4 := NB155_147.out; have hns119_5 := NB164_147.out; have hms119_0 := NB147_145.out; have hms119_1 := NB147_146.out; have hms119_3 := NB147_148.out; have hms119_4 := NB147_155.out; have hms119_5 := NB147_164.out
          have hs120 : w117.cell? ⟨gb147, 2, none⟩ = some (.int .i64 0) := (blk_cell BK147.out 2).trans rfl
          have hfs120 := blk_frozen BK147.out 2
          have hns120_0 := NB145_147.out; have hns120_1 := NB146_147.out; have hns120_3 := NB148_147.out; have hns120_4 := NB155_147.out; have hns120_5 := NB164_147.out; have hms120_0 := NB147_145.out; have hms120_1 := NB147_146.out; have hms120_3 := NB147_148.out; have hms120_4 := NB147_155.out; have hms120_5 := NB147_164.out
          have hs121 : w117.cell? ⟨gb147, 3, none⟩ = some (.int .i64 0) := (blk_cell BK147.out 3).trans rfl
          have hfs121 := blk_frozen BK147.out 3
          have hns121_0 := NB145_147.out; have hns121_1 := NB146_147.out; have hns121_3 := NB148_147.out; have hns121_4 := NB155_147.out; have hns121_5 := NB164_147.out; have hms121_0 := NB147_145.out; have hms121_1 := NB147_146.out; have hms121_3 := NB147_148.out; have hms121_4 := NB147_155.out; have hms121_5 := NB147_164.out
          have hs122 : w117.cell? ⟨gb147, 4, none⟩ = some (.string (⟨#[]⟩ : ByteArray)) := (blk_cell BK147.out 4).trans rfl
          have hfs122 := blk_frozen BK147.out 4
          have hns122_0 := NB145_147.out; have hns122_1 := NB146_147.out; have hns122_3 := NB148_147.out; have hns122_4 := NB155_147.out; have hns122_5 := NB164_147.out; have hms122_0 := NB147_145.out; have hms122_1 := NB147_146.out; have hms122_3 := NB147_148.out; have hms122_4 := NB147_155.out; have hms122_5 := NB147_164.out
          have hs123 : w117.cell? ⟨gb147, 5, none⟩ = some (.string (⟨#[]⟩ : ByteArray)) := (blk_cell BK147.out 5).trans rfl
          have hfs123 := blk_frozen BK147.out 5
          have hns123_0 := NB145_147.out; have hns123_1 := NB146_147.out; have hns123_3 := NB148_147.out; have hns123_4 := NB155_147.out; have hns123_5 := NB164_147.out; have hms123_0 := NB147_145.out; have hms123_1 := NB147_146.out; have hms123_3 := NB147_148.out; have hms123_4 := NB147_155.out; have hms123_5 := NB147_164.out
          refine skip_ (w1 := ?_) (by rfl) rfl ?_ ?_
          rotate_left
          ·go_simp
           rfl
          refine hK.out _ _ ⟨(cf NB164_147 ((cf NB164_147 ((cf NB164_147 ((cf NB164_147 ((cf NB164_147 ((cf NB164_147 (hHeld.1)))))))))))), (cf NB164_147 ((cf NB164_147 ((cf NB164_147 ((cf NB164_147 ((cf NB164_147 ((cf NB164_147 (hHeld.2.1)))))))))))), (cf NB164_147 ((cf NB164_147 ((cf NB164_147 ((cf NB164_147 ((cf NB164_147 ((cf NB164_147 (hHeld.2.2.1)))))))))))), (cf NB164_147 ((cf NB164_147 ((cf NB164_147 ((cf NB164_147 ((cf NB164_147 ((cf NB164_147 (hHeld.2.2.2.1)))))))))))), (cf NB164_147 ((cf NB164_147 ((cf NB164_147 ((cf NB164_147 ((cf NB164_147 ((cf NB164_147 (hHeld.2.2.2.2.1)))))))))))), (cf NB164_147 ((cf NB164_147 ((cf NB164_147 ((cf NB164_147 ((cf NB164_147 ((cf NB164_147 (hHeld.2.2.2.2.2.1)))))))))))), (cf NB155_147 ((cf NB155_147 ((cf NB155_147 ((cf NB155_147 ((cf NB155_147 ((cf NB155_147 (hHeld.2.2.2.2.2.2.1)))))))))))), (cf NB155_147 ((cf NB155_147 ((cf NB155_147 ((cf NB155_147 ((cf NB155_147 ((cf NB155_147 (hHeld.2.2.2.2.2.2.2.1)))))))))))), (cf NB155_147 ((cf NB155_147 ((cf NB155_147 ((cf NB155_147 ((cf NB155_147 ((cf NB155_147 (hHeld.2.2.2.2.2.2.2.2.1)))))))))))), (cf NB155_147 ((cf NB155_147 ((cf NB155_147 ((cf NB155_147 ((cf NB155_147 ((cf NB155_147 (hHeld.2.2.2.2.2.2.2.2.2))))))))))))⟩ (fun hHeld => ?_)
          clear hK K
          refine one_ (i := 3) (N := none) #[true, true, true, true, false] rfl rfl (by kernel_rfl) (by decide) (fun K hK => ?_)
          have hs124 : w117.cell? ⟨gb148, 0, none⟩ = some (.int .i64 0) := (blk_cell BK148.out 0).trans rfl
          have hfs124 := blk_frozen BK148.out 0
          have hns124_0 := NB145_148.out; have hns124_1 := NB146_148.out; have hns124_2 := NB147_148.out; have hns124_4 := NB155_148.out; have hns124_5 := NB164_148.out; have hms124_0 := NB148_145.out; have hms124_1 := NB148_146.out; have hms124_2 := NB148_147.out; have hms124_4 := NB148_155.out; have hms124_5 := NB148_164.out
          have hs125 : w117.cell? ⟨gb148, 1, none⟩ = some (.int .i64 0) := (blk_cell BK148.out 1).trans rfl
          have hfs125 := blk_frozen BK148.out 1
          have hns125_0 := NB145_148.out; have hns125_1 := NB146_148.out; have hns125_2 := NB147_148.out; have hns125_4 := NB155_148.out; have hns125_5 := NB164_148.out; have hms125_0 := NB148_145.out; have hms125_1 := NB148_146.out; have hms125_2 := NB148_147.out; have hms125_4 := NB148_155.out; have hms125_5 := NB148_164.out
          have hs126 : w117.cell? ⟨gb148, 2, none⟩ = some (.int .i64 0) := (blk_cell BK148.out 2).trans rfl
          have hfs126 := blk_frozen BK148.out 2
          have hns126_0 := NB145_148.out; have hns126_1 := NB146_148.out; have hns126_2 := NB147_148.out; have hns126_4 := NB155_148.out; have hns126_5 := NB164_148.out; have hms126_0 := NB148_145.out; have hms126_1 := NB148_146.out; have hms126_2 := NB148_147.out; have hms126_4 := NB148_155.out; have hms126_5 := NB148_164.out
          have hs127 : w117.cell? ⟨gb148, 3, none⟩ = some (.int .i64 0) := (blk_cell BK148.out 3).trans rfl
          have hfs127 := blk_frozen BK148.out 3
          have hns127_0 := NB145_148.out; have hns127_1 := NB146_148.out; have hns127_2 := NB147_148.out; have hns127_4 := NB155_148.out; have hns127_5 := NB164_148.out; have hms127_0 := NB148_145.out; have hms127_1 := NB148_146.out; have hms127_2 := NB148_147.out; have hms127_4 := NB148_155.out; have hms127_5 := NB148_164.out
          refine skip_ (w1 := ?_) (by rfl) rfl ?_ ?_
          rotate_left
          ·go_simp
           rfl
          refine hK.out _ _ ⟨(cf NB164_148 ((cf NB164_148 ((cf NB164_148 ((cf NB164_148 (hHeld.1)))))))), (cf NB164_148 ((cf NB164_148 ((cf NB164_148 ((cf NB164_148 (hHeld.2.1)))))))), (cf NB164_148 ((cf NB164_148 ((cf NB164_148 ((cf NB164_148 (hHeld.2.2.1)))))))), (cf NB164_148 ((cf NB164_148 ((cf NB164_148 ((cf NB164_148 (hHeld.2.2.2.1)))))))), (cf NB164_148 ((cf NB164_148 ((cf NB164_148 ((cf NB164_148 (hHeld.2.2.2.2.1)))))))), (cf NB164_148 ((cf NB164_148 ((cf NB164_148 ((cf NB164_148 (hHeld.2.2.2.2.2.1)))))))), (cf NB155_148 ((cf NB155_148 ((cf NB155_148 ((cf NB155_148 (hHeld.2.2.2.2.2.2.1)))))))), (cf NB155_148 ((cf NB155_148 ((cf NB155_148 ((cf NB155_148 (hHeld.2.2.2.2.2.2.2.1)))))))), (cf NB155_148 ((cf NB155_148 ((cf NB155_148 ((cf NB155_148 (hHeld.2.2.2.2.2.2.2.2.1)))))))), (cf NB155_148 ((cf NB155_148 ((cf NB155_148 ((cf NB155_148 (hHeld.2.2.2.2.2.2.2.2.2))))))))⟩ (fun hHeld => ?_)
          clear hK K
          refine pure_ (i := 4) (N := some 6) (v := ?_) (a' := ?_) #[true, true, true, true, true] rfl rfl (by kernel_rfl) (fun _ _ _ h => h) (Or.inl ⟨by rfl, ?_⟩) ?_ ?_
          rotate_left
          ·intro w'
           go_simp
           with_reducible rfl
          rotate_left
          ·simp only [Act.put, List.setIfInBounds_toArray, List.set_cons_zero, List.set_cons_succ, i64_w, i32_w]
           rfl
          refine done_ (by kernel_rfl) ?_
          try go_wp2
          refine bodyPost_ret (results_list (rs := [.cell 4 26, .cell 5 24, .tmp 6]) rfl (by simp) (.cell gb147 26 #[.int .i64 t160, .int .i64 t161, .int .i64 t162, .int .i64 t163, .string x165004_46, .string t166] (0, 0) _ rfl (by refine pl ?_; refine blk_far ?_ NB147_148.out _; refine pl ?_; refine blk_far ?_ NB147_148.out _; refine pl ?_; refine blk_far ?_ NB147_148.out _; refine pl ?_; refine blk_far ?_ NB147_148.out _; refine pl ?_; refine blk_put (cs := #[.int .i64 t160, .int .i64 t161, .int .i64 t162, .int .i64 t163, .string x165004_46, .string (⟨#[]⟩ : ByteArray)]) ?_ 5 _ rfl; refine pl ?_; refine blk_put (cs := #[.int .i64 t160, .int .i64 t161, .int .i64 t162, .int .i64 t163, .string (⟨#[]⟩ : ByteArray), .string (⟨#[]⟩ : ByteArray)]) ?_ 4 _ rfl; refine pl ?_; refine blk_put (cs := #[.int .i64 t160, .int .i64 t161, .int .i64 t162, .int .i64 0, .string (⟨#[]⟩ : ByteArray), .string (⟨#[]⟩ : ByteArray)]) ?_ 3 _ rfl; refine pl ?_; refine blk_put (cs := #[.int .i64 t160, .int .i64 t161, .int .i64 0, .int .i64 0, .string (⟨#[]⟩ : ByteArray), .string (⟨#[]⟩ : ByteArray)]) ?_ 2 _ rfl; refine pl ?_; refine blk_put (cs := #[.int .i64 t160, .int .i64 0, .int .i64 0, .int .i64 0, .string (⟨#[]⟩ : ByteArray), .string (⟨#[]⟩ : ByteArray)]) ?_ 1 _ rfl; refine pl ?_; refine blk_put (cs := #[.int .i64 0, .int .i64 0, .int .i64 0, .int .i64 0, .string (⟨#[]⟩ : ByteArray), .string (⟨#[]⟩ : ByteArray)]) ?_ 0 _ rfl; refine pl ?_; exact BK147.out) Tryd.underlying26 rfl (by kernel_rfl) (.cell gb148 24 #[.int .i64 t151, .int .i64 t152, .int .i64 t153, .int .i64 t154] (0, 0) _ rfl (by refine pl ?_; refine blk_put (cs := #[.int .i64 t151, .int .i64 t152, .int .i64 t153, .int .i64 0]) ?_ 3 _ rfl; refine pl ?_; refine blk_put (cs := #[.int .i64 t151, .int .i64 t152, .int .i64 0, .int .i64 0]) ?_ 2 _ rfl; refine pl ?_; refine blk_put (cs := #[.int .i64 t151, .int .i64 0, .int .i64 0, .int .i64 0]) ?_ 1 _ rfl; refine pl ?_; refine blk_put (cs := #[.int .i64 0, .int .i64 0, .int .i64 0, .int .i64 0]) ?_ 0 _ rfl; refine pl ?_; refine blk_far ?_ NB148_147.out _; refine pl ?_; refine blk_far ?_ NB148_147.out _; refine pl ?_; refine blk_far ?_ NB148_147.out _; refine pl ?_; refine blk_far ?_ NB148_147.out _; refine pl ?_; refine blk_far ?_ NB148_147.out _; refine pl ?_; refine blk_far ?_ NB148_147.out _; refine pl ?_; exact BK148.out) Tryd.underlying24 rfl (by kernel_rfl) (.tmp .nil)))) rfl ?_
          exact ⟨by first | rfl | (simp [*] <;> rfl), by repeat (first | (with_reducible first | exact HB.out | apply below_alloc | apply pw_below_drewN | apply below_drew1 | refine below_set ?_ GE145.out | refine below_set ?_ GE146.out | refine below_set ?_ GE147.out | refine below_set ?_ GE148.out | refine below_set ?_ GE155.out | refine below_set ?_ GE164.out) | exact HB.out)⟩
         ·replace c99 := Bool.eq_false_iff.mpr c99
          subst c99
          have H1 : (some (0, 0, 0, 0, (⟨#[]⟩ : ByteArray), (⟨#[]⟩ : ByteArray), 0, 0, 0, 0, 50)) = some (r1, r2, r3, r4, r5, r6, r7, r8, r9, r10, r11) := by rw [if_neg (show ¬ (false = true) by decide)] at H; exact H
          clear H; have H := H1; clear H1
          simp only [Option.some.injEq, Prod.mk.injEq] at H
          obtain ⟨rfl, rfl, rfl, rfl, rfl, rfl, rfl, rfl, rfl, rfl, rfl⟩ := H
          have hnb128 := NB146_145.out; have hnc128 := NB145_146.out; have hnb129 := NB146_147.out; have hnc129 := NB147_146.out; have hnb130 := NB146_148.out; have hnc130 := NB148_146.out; have hnb131 := NB146_155.out; have hnc131 := NB155_146.out; have hnb132 := NB146_164.out; have hnc132 := NB164_146.out; obtain ⟨hcz133_0, hcz133_1, hcz133_2, hcz133_3, hcz133_4, hcz133_5⟩ := c6 BK146.out; obtain ⟨hfz133_0, hfz133_1, hfz133_2, hfz133_3, hfz133_4, hfz133_5⟩ := f6 BK146.out; have hnb134 := NB145_147.out; have hnc134 := NB147_145.out; have hnb135 := NB145_148.out; have hnc135 := NB148_145.out; have hnb136 := NB145_155.out; have hnc136 := NB155_145.out; have hnb137 := NB145_164.out; have hnc137 := NB164_145.out; obtain ⟨hcz138_0, hcz138_1, hcz138_2, hcz138_3, hcz138_4, hcz138_5⟩ := c6 BK145.out; obtain ⟨hfz138_0, hfz138_1, hfz138_2, hfz138_3, hfz138_4, hfz138_5⟩ := f6 BK145.out
          go_wp2_with (first | ((with_reducible refine gate_callee (f := 41) rfl ?_); refine goesL_ (some 66) rfl rfl Tryd.func41 (by kernel_rfl) rfl #[.string (a0_5 ++ a1_5)] rfl (by (try simp only [List.map_toArray, List.map_cons, List.map_nil]); first | done | rfl | (simp only [List.length_drop, List.length_take]; rfl)) ?_; (with_reducible refine (weld_tail.calls (a0_5 ++ a1_5) t166 _ A97.out).mono ?_); rintro e w139 ⟨rfl, hb⟩; refine ⟨_, rfl, ?_⟩; replace BK145 := Aside0.mk (blk_below (pl BK145.out) hb); replace BK146 := Aside0.mk (blk_below (pl BK146.out) hb); replace BK147 := Aside0.mk (blk_below (pl BK147.out) hb); replace BK148 := Aside0.mk (blk_below (pl BK148.out) hb); replace BK155 := Aside0.mk (blk_below (pl BK155.out) hb); replace BK164 := Aside0.mk (blk_below (pl BK164.out) hb); replace HB := Aside0.mk (below_step (by repeat (first | (with_reducible first | exact HB.out | apply below_alloc | apply pw_below_drewN | apply below_drew1 | refine below_set ?_ GE145.out | refine below_set ?_ GE146.out | refine below_set ?_ GE147.out | refine below_set ?_ GE148.out | refine below_set ?_ GE155.out | refine below_set ?_ GE164.out) | exact HB.out)) hb); (try clear hb); (try clear hb2); (try clear hk); (try clear hi); have hnb140 := NB164_147.out; have hnc140 := NB147_164.out; have hnb141 := NB164_148.out; have hnc141 := NB148_164.out; have hnb142 := NB164_155.out; have hnc142 := NB155_164.out; obtain ⟨hcz143_0, hcz143_1, hcz143_2, hcz143_3, hcz143_4, hcz143_5⟩ := c6 BK164.out; obtain ⟨hfz143_0, hfz143_1, hfz143_2, hfz143_3, hfz143_4, hfz143_5⟩ := f6 BK164.out) | ((with_reducible refine gate_callee (f := 11) rfl ?_); refine goesL_ (some 69) rfl rfl Tryd.func11 (by kernel_rfl) rfl #[.agg #[.int .i64 t160, .int .i64 t161, .int .i64 t162, .int .i64 t163, .string x165004_46, .string t166]] rfl (by (try simp only [List.map_toArray, List.map_cons, List.map_nil]); first | done | rfl | (simp only [List.length_drop, List.length_take]; rfl)) ?_; (with_reducible refine (weld_Valid.calls kj46 t160 t161 t162 t163 x165004_46 t166 false _ ?side1 A98.out).mono ?_); (case side1 => first | (with_reducible exact HG.out) | exact Glob.Globs_below HG.out (by repeat (first | (with_reducible first | exact HB.out | apply below_alloc | apply pw_below_drewN | apply below_drew1 | refine below_set ?_ GE145.out | refine below_set ?_ GE146.out | refine below_set ?_ GE147.out | refine below_set ?_ GE148.out | refine below_set ?_ GE155.out | refine below_set ?_ GE164.out) | exact HB.out))); rintro e w144 ⟨rfl, hb⟩; refine ⟨_, rfl, ?_⟩; replace BK145 := Aside0.mk (blk_below (g := gb145) (o := .cells #[.int .i64 a0_0, .int .i64 a0_1, .int .i64 a0_2, .int .i64 a0_3, .string a0_4, .string a0_5] 26 (0, 0)) (by refine pl ?_; refine blk_far ?_ NB145_164.out _; refine pl ?_; exact BK145.out) hb); replace BK146 := Aside0.mk (blk_below (g := gb146) (o := .cells #[.int .i64 a1_0, .int .i64 a1_1, .int .i64 a1_2, .int .i64 a1_3, .string a1_4, .string a1_5] 26 (0, 0)) (by refine pl ?_; refine blk_far ?_ NB146_164.out _; refine pl ?_; exact BK146.out) hb); replace BK147 := Aside0.mk (blk_below (g := gb147) (o := .cells #[.int .i64 0, .int .i64 0, .int .i64 0, .int .i64 0, .string (⟨#[]⟩ : ByteArray), .string (⟨#[]⟩ : ByteArray)] 26 (0, 0)) (by refine pl ?_; refine blk_far ?_ NB147_164.out _; refine pl ?_; exact BK147.out) hb); replace BK148 := Aside0.mk (blk_below (g := gb148) (o := .cells #[.int .i64 0, .int .i64 0, .int .i64 0, .int .i64 0] 24 (0, 0)) (by refine pl ?_; refine blk_far ?_ NB148_164.out _; refine pl ?_; exact BK148.out) hb); replace BK155 := Aside0.mk (blk_below (g := gb155) (o := .cells #[.int .i64 t151, .int .i64 t152, .int .i64 t153, .int .i64 t154] 24 (0, 0)) (by refine pl ?_; refine blk_far ?_ NB155_164.out _; refine pl ?_; exact BK155.out) hb); replace BK164 := Aside0.mk (blk_below (g := gb164) (o := .cells #[.int .i64 t160, .int .i64 t161, .int .i64 t162, .int .i64 t163, .string x165004_46, .string t166] 26 (0, 0)) (by refine pl ?_; refine blk_put (cs := #[.int .i64 t160, .int .i64 t161, .int .i64 t162, .int .i64 t163, .string x165004_46, .string a1_5]) ?_ 5 _ rfl; refine pl ?_; exact BK164.out) hb); replace HB := Aside0.mk (below_step (by repeat (first | (with_reducible first | exact HB.out | apply below_alloc | apply pw_below_drewN | apply below_drew1 | refine below_set ?_ GE145.out | refine below_set ?_ GE146.out | refine below_set ?_ GE147.out | refine below_set ?_ GE148.out | refine below_set ?_ GE155.out | refine below_set ?_ GE164.out) | exact HB.out)) hb); (try clear hb); (try clear hb2); (try clear hk); (try clear hi); have hnb145 := NB147_148.out; have hnc145 := NB148_147.out; have hnb146 := NB147_155.out; have hnc146 := NB155_147.out; obtain ⟨hcz147_0, hcz147_1, hcz147_2, hcz147_3, hcz147_4, hcz147_5⟩ := c6 BK147.out; obtain ⟨hfz147_0, hfz147_1, hfz147_2, hfz147_3, hfz147_4, hfz147_5⟩ := f6 BK147.out; have hnb148 := NB148_155.out; have hnc148 := NB155_148.out; obtain ⟨hcz149_0, hcz149_1, hcz149_2, hcz149_3⟩ := c4 BK148.out; obtain ⟨hfz149_0, hfz149_1, hfz149_2, hfz149_3⟩ := f4 BK148.out))
          refine bodyPost_ret (results_list (rs := [.cell 4 26, .cell 5 24, .tmp 6]) rfl (by simp) (.cell gb147 26 #[.int .i64 0, .int .i64 0, .int .i64 0, .int .i64 0, .string (⟨#[]⟩ : ByteArray), .string (⟨#[]⟩ : ByteArray)] (0, 0) _ rfl (by refine pl ?_; refine blk_far ?_ NB147_148.out _; refine pl ?_; refine blk_far ?_ NB147_148.out _; refine pl ?_; refine blk_far ?_ NB147_148.out _; refine pl ?_; refine blk_far ?_ NB147_148.out _; refine pl ?_; refine blk_put (cs := #[.int .i64 0, .int .i64 0, .int .i64 0, .int .i64 0, .string (⟨#[]⟩ : ByteArray), .string (⟨#[]⟩ : ByteArray)]) ?_ 5 _ rfl; refine pl ?_; refine blk_put (cs := #[.int .i64 0, .int .i64 0, .int .i64 0, .int .i64 0, .string (⟨#[]⟩ : ByteArray), .string (⟨#[]⟩ : ByteArray)]) ?_ 4 _ rfl; refine pl ?_; refine blk_put (cs := #[.int .i64 0, .int .i64 0, .int .i64 0, .int .i64 0, .string (⟨#[]⟩ : ByteArray), .string (⟨#[]⟩ : ByteArray)]) ?_ 3 _ rfl; refine pl ?_; refine blk_put (cs := #[.int .i64 0, .int .i64 0, .int .i64 0, .int .i64 0, .string (⟨#[]⟩ : ByteArray), .string (⟨#[]⟩ : ByteArray)]) ?_ 2 _ rfl; refine pl ?_; refine blk_put (cs := #[.int .i64 0, .int .i64 0, .int .i64 0, .int .i64 0, .string (⟨#[]⟩ : ByteArray), .string (⟨#[]⟩ : ByteArray)]) ?_ 1 _ rfl; refine pl ?_; refine blk_put (cs := #[.int .i64 0, .int .i64 0, .int .i64 0, .int .i64 0, .string (⟨#[]⟩ : ByteArray), .string (⟨#[]⟩ : ByteArray)]) ?_ 0 _ rfl; refine pl ?_; exact BK147.out) Tryd.underlying26 rfl (by kernel_rfl) (.cell gb148 24 #[.int .i64 0, .int .i64 0, .int .i64 0, .int .i64 0] (0, 0) _ rfl (by refine pl ?_; refine blk_put (cs := #[.int .i64 0, .int .i64 0, .int .i64 0, .int .i64 0]) ?_ 3 _ rfl; refine pl ?_; refine blk_put (cs := #[.int .i64 0, .int .i64 0, .int .i64 0, .int .i64 0]) ?_ 2 _ rfl; refine pl ?_; refine blk_put (cs := #[.int .i64 0, .int .i64 0, .int .i64 0, .int .i64 0]) ?_ 1 _ rfl; refine pl ?_; refine blk_put (cs := #[.int .i64 0, .int .i64 0, .int .i64 0, .int .i64 0]) ?_ 0 _ rfl; refine pl ?_; refine blk_far ?_ NB148_147.out _; refine pl ?_; refine blk_far ?_ NB148_147.out _; refine pl ?_; refine blk_far ?_ NB148_147.out _; refine pl ?_; refine blk_far ?_ NB148_147.out _; refine pl ?_; refine blk_far ?_ NB148_147.out _; refine pl ?_; refine blk_far ?_ NB148_147.out _; refine pl ?_; exact BK148.out) Tryd.underlying24 rfl (by kernel_rfl) (.tmp .nil)))) rfl ?_
          exact ⟨by first | rfl | (simp [*] <;> rfl), by repeat (first | (with_reducible first | exact HB.out | apply below_alloc | apply pw_below_drewN | apply below_drew1 | refine below_set ?_ GE145.out | refine below_set ?_ GE146.out | refine below_set ?_ GE147.out | refine below_set ?_ GE148.out | refine below_set ?_ GE155.out | refine below_set ?_ GE164.out) | exact HB.out)⟩
        ·rw [if_neg c96] at H
         exact absurd H (by simp)
       ·rw [if_neg c95] at H
        have c95b0 : decide (a1_0 < 3) = false := decide_eq_false c95
        clear c95
        replace H := Option.bind_eq_some_iff.mp H
        obtain ⟨t168, A1500, H⟩ := H
        replace H : (if t168 = true then (some (t160, t161, t162, t163, x165004_46, a1_5, t151, t152, t153, t154, 0)) else (some (0, 0, 0, 0, (⟨#[]⟩ : ByteArray), (⟨#[]⟩ : ByteArray), 0, 0, 0, 0, 50))) = some (r1, r2, r3, r4, r5, r6, r7, r8, r9, r10, r11) := H
        have A150 := Aside0.mk A1500; clear A1500
        by_cases c151 : t168 = true
        ·subst c151
         have H1 : (some (t160, t161, t162, t163, x165004_46, a1_5, t151, t152, t153, t154, 0)) = some (r1, r2, r3, r4, r5, r6, r7, r8, r9, r10, r11) := by rw [if_pos rfl] at H; exact H
         clear H; have H := H1; clear H1
         simp only [Option.some.injEq, Prod.mk.injEq] at H
         obtain ⟨rfl, rfl, rfl, rfl, rfl, rfl, rfl, rfl, rfl, rfl, rfl⟩ := H
         have hnb152 := NB146_145.out; have hnc152 := NB145_146.out; have hnb153 := NB146_147.out; have hnc153 := NB147_146.out; have hnb154 := NB146_148.out; have hnc154 := NB148_146.out; have hnb155 := NB146_155.out; have hnc155 := NB155_146.out; have hnb156 := NB146_164.out; have hnc156 := NB164_146.out; obtain ⟨hcz157_0, hcz157_1, hcz157_2, hcz157_3, hcz157_4, hcz157_5⟩ := c6 BK146.out; obtain ⟨hfz157_0, hfz157_1, hfz157_2, hfz157_3, hfz157_4, hfz157_5⟩ := f6 BK146.out; have hnb158 := NB164_145.out; have hnc158 := NB145_164.out; have hnb159 := NB164_147.out; have hnc159 := NB147_164.out; have hnb160 := NB164_148.out; have hnc160 := NB148_164.out; have hnb161 := NB164_155.out; have hnc161 := NB155_164.out; obtain ⟨hcz162_0, hcz162_1, hcz162_2, hcz162_3, hcz162_4, hcz162_5⟩ := c6 BK164.out; obtain ⟨hfz162_0, hfz162_1, hfz162_2, hfz162_3, hfz162_4, hfz162_5⟩ := f6 BK164.out
         try go_wp2_with (first | ((with_reducible refine gate_callee (f := 11) rfl ?_); refine goesL_ (some 69) rfl rfl Tryd.func11 (by kernel_rfl) rfl #[.agg #[.int .i64 t160, .int .i64 t161, .int .i64 t162, .int .i64 t163, .string x165004_46, .string a1_5]] rfl (by (try simp only [List.map_toArray, List.map_cons, List.map_nil]); first | done | rfl | (simp only [List.length_drop, List.length_take]; rfl)) ?_; (with_reducible refine (weld_Valid.calls kj46 t160 t161 t162 t163 x165004_46 a1_5 true _ ?side1 A150.out).mono ?_); (case side1 => first | (with_reducible exact HG.out) | exact Glob.Globs_below HG.out (by repeat (first | (with_reducible first | exact HB.out | apply below_alloc | apply pw_below_drewN | apply below_drew1 | refine below_set ?_ GE145.out | refine below_set ?_ GE146.out | refine below_set ?_ GE147.out | refine below_set ?_ GE148.out | refine below_set ?_ GE155.out | refine below_set ?_ GE164.out) | exact HB.out))); rintro e w163 ⟨rfl, hb⟩; refine ⟨_, rfl, ?_⟩; replace BK145 := Aside0.mk (blk_below (pl BK145.out) hb); replace BK146 := Aside0.mk (blk_below (pl BK146.out) hb); replace BK147 := Aside0.mk (blk_below (pl BK147.out) hb); replace BK148 := Aside0.mk (blk_below (pl BK148.out) hb); replace BK155 := Aside0.mk (blk_below (pl BK155.out) hb); replace BK164 := Aside0.mk (blk_below (pl BK164.out) hb); replace HB := Aside0.mk (below_step (by repeat (first | (with_reducible first | exact HB.out | apply below_alloc | apply pw_below_drewN | apply below_drew1 | refine below_set ?_ GE145.out | refine below_set ?_ GE146.out | refine below_set ?_ GE147.out | refine below_set ?_ GE148.out | refine below_set ?_ GE155.out | refine below_set ?_ GE164.out) | exact HB.out)) hb); (try clear hb); (try clear hb2); (try clear hk); (try clear hi)))
         replace BK145 := Aside0.mk (blk_drew BK145.out); replace BK146 := Aside0.mk (blk_drew BK146.out); replace BK147 := Aside0.mk (blk_drew BK147.out); replace BK148 := Aside0.mk (blk_drew BK148.out); replace BK155 := Aside0.mk (blk_drew BK155.out); replace BK164 := Aside0.mk (blk_drew BK164.out); replace HB := Aside0.mk (below_drew1 HB.out)
         refine start_ (n := 5) (S := fun w' => w'.cell? ⟨gb164, 0, none⟩ = some (.int .i64 t160) ∧ w'.cell? ⟨gb164, 1, none⟩ = some (.int .i64 t161) ∧ w'.cell? ⟨gb164, 2, none⟩ = some (.int .i64 t162) ∧ w'.cell? ⟨gb164, 3, none⟩ = some (.int .i64 t163) ∧ w'.cell? ⟨gb164, 4, none⟩ = some (.string x165004_46) ∧ w'.cell? ⟨gb164, 5, none⟩ = some (.string a1_5) ∧ w'.cell? ⟨gb155, 0, none⟩ = some (.int .i64 t151) ∧ w'.cell? ⟨gb155, 1, none⟩ = some (.int .i64 t152) ∧ w'.cell? ⟨gb155, 2, none⟩ = some (.int .i64 t153) ∧ w'.cell? ⟨gb155, 3, none⟩ = some (.int .i64 t154)) (ds := []) #[false, false, false, false, false] (by kernel_rfl) rfl rfl ⟨(blk_cell BK164.out 0).trans rfl, (blk_cell BK164.out 1).trans rfl, (blk_cell BK164.out 2).trans rfl, (blk_cell BK164.out 3).trans rfl, (blk_cell BK164.out 4).trans rfl, (blk_cell BK164.out 5).trans rfl, (blk_cell BK155.out 0).trans rfl, (blk_cell BK155.out 1).trans rfl, (blk_cell BK155.out 2).trans rfl, (blk_cell BK155.out 3).trans rfl⟩ (fun hHeld => ?_)
         generalize w163.drew = w164 at BK145 BK146 BK147 BK148 BK155 BK164 HB hHeld ⊢
         refine take_ (i := 0) (N := some 73) (v := ?_) (a' := ?_) #[true, false, false, false, false] rfl rfl (by kernel_rfl) (fun _ _ _ h => h) (Or.inl ⟨by rfl, ?_⟩) hHeld ?_ ?_
         rotate_left
         ·rintro w' ⟨s0, s1, s2, s3, s4, s5, s6, s7, s8, s9⟩
          go_simp
          with_reducible rfl
         rotate_left
         ·simp only [Act.put, List.setIfInBounds_toArray, List.set_cons_zero, List.set_cons_succ, i64_w, i32_w]
          rfl
         refine take_ (i := 1) (N := some 74) (v := ?_) (a' := ?_) #[true, true, false, false, false] rfl rfl (by kernel_rfl) (fun _ _ _ h => h) (Or.inl ⟨by rfl, ?_⟩) hHeld ?_ ?_
         rotate_left
         ·rintro w' ⟨s0, s1, s2, s3, s4, s5, s6, s7, s8, s9⟩
          go_simp
          with_reducible rfl
         rotate_left
         ·simp only [Act.put, List.setIfInBounds_toArray, List.set_cons_zero, List.set_cons_succ, i64_w, i32_w]
          rfl
         refine one_ (i := 2) (N := none) #[true, true, true, false, false] rfl rfl (by kernel_rfl) (by decide) (fun K hK => ?_)
         have hs165 : w164.cell? ⟨gb147, 0, none⟩ = some (.int .i64 0) := (blk_cell BK147.out 0).trans rfl
         have hfs165 := blk_frozen BK147.out 0
         have hns165_0 := NB145_147.out; have hns165_1 := NB146_147.out; have hns165_3 := NB148_147.out; have hns165_4 := NB155_147.out; have hns165_5 := NB164_147.out; have hms165_0 := NB147_145.out; have hms165_1 := NB147_146.out; have hms165_3 := NB147_148.out; have hms165_4 := NB147_155.out; have hms165_5 := NB147_164.out
         have hs166 : w164.cell? ⟨gb147, 1, none⟩ = some (.int .i64 0) := (blk_cell BK147.out 1).trans rfl
         have hfs166 := blk_frozen BK147.out 1
         have hns166_0 := NB145_147.out; have hns166_1 := NB146_147.out; have hns166_3 := NB148_147.out; have hns166_4 := NB155_147.out; have hns166_5 := NB164_147.out; have hms166_0 := NB147_145.out; have hms166_1 := NB147_146.out; have hms166_3 := NB147_148.out; have hms166_4 := NB147_155.out; have hms166_5 := NB147_164.out
         have hs167 : w164.cell? ⟨gb147, 2, none⟩ = some (.int .i64 0) := (blk_cell BK147.out 2).trans rfl
         have hfs167 := blk_frozen BK147.out 2
         have hns167_0 := NB145_147.out; have hns167_1 := NB146_147.out; have hns167_3 := NB148_147.out; have hns167_4 := NB155_147.out; have hns167_5 := NB164_147.out; have hms167_0 := NB147_145.out; have hms167_1 := NB147_146.out; have hms167_3 := NB147_148.out; have hms167_4 := NB147_155.out; have hms167_5 := NB147_164.out
         have hs168 : w164.cell? ⟨gb147, 3, none⟩ = some (.int .i64 0) := (blk_cell BK147.out 3).trans rfl
         have hfs168 := blk_frozen BK147.out 3
         have hns168_0 := NB145_147.out; have hns168_1 := NB146_147.out; have hns168_3 := NB148_147.out; have hns168_4 := NB155_147.out; have hns168_5 := NB164_147.out; have hms168_0 := NB147_145.out; have hms168_1 := NB147_146.out; have hms168_3 := NB147_148.out; have hms168_4 := NB147_155.out; have hms168_5 := NB147_164.out
         have hs169 : w164.cell? ⟨gb147, 4, none⟩ = some (.string (⟨#[]⟩ : ByteArray)) := (blk_cell BK147.out 4).trans rfl
         have hfs169 := blk_frozen BK147.out 4
         have hns169_0 := NB145_147.out; have hns169_1 := NB146_147.out; have hns169_3 := NB148_147.out; have hns169_4 := NB155_147.out; have hns169_5 := NB164_147.out; have hms169_0 := NB147_145.out; have hms169_1 := NB147_146.out; have hms169_3 := NB147_148.out; have hms169_4 := NB147_155.out; have hms169_5 := NB147_164.out
         have hs170 : w164.cell? ⟨gb147, 5, none⟩ = some (.string (⟨#[]⟩ : ByteArray)) := (blk_cell BK147.out 5).trans rfl
         have hfs170 := blk_frozen BK147.out 5
         have hns170_0 := NB145_147.out; have hns170_1 := NB146_147.out; have hns170_3 := NB148_147.out; have hns170_4 := NB155_147.out; have hns170_5 := NB164_147.out; have hms170_0 := NB147_145.out; have hms170_1 := NB147_146.out; have hms170_3 := NB147_148.out; have hms170_4 := NB147_155.out; have hms170_5 := NB147_164.out
         refine skip_ (w1 := ?_) (by rfl) rfl ?_ ?_
         rotate_left
         ·go_simp
          rfl
         refine hK.out _ _ ⟨(cf NB164_147 ((cf NB164_147 ((cf NB164_147 ((cf NB164_147 ((cf NB164_147 ((cf NB164_147 (hHeld.1)))))))))))), (cf NB164_147 ((cf NB164_147 ((cf NB164_147 ((cf NB164_147 ((cf NB164_147 ((cf NB164_147 (hHeld.2.1)))))))))))), (cf NB164_147 ((cf NB164_147 ((cf NB164_147 ((cf NB164_147 ((cf NB164_147 ((cf NB164_147 (hHeld.2.2.1)))))))))))), (cf NB164_147 ((cf NB164_147 ((cf NB164_147 ((cf NB164_147 ((cf NB164_147 ((cf NB164_147 (hHeld.2.2.2.1)))))))))))), (cf NB164_147 ((cf NB164_147 ((cf NB164_147 ((cf NB164_147 ((cf NB164_147 ((cf NB164_147 (hHeld.2.2.2.2.1)))))))))))), (cf NB164_147 ((cf NB164_147 ((cf NB164_147 ((cf NB164_147 ((cf NB164_147 ((cf NB164_147 (hHeld.2.2.2.2.2.1)))))))))))), (cf NB155_147 ((cf NB155_147 ((cf NB155_147 ((cf NB155_147 ((cf NB155_147 ((cf NB155_147 (hHeld.2.2.2.2.2.2.1)))))))))))), (cf NB155_147 ((cf NB155_147 ((cf NB155_147 ((cf NB155_147 ((cf NB155_147 ((cf NB155_147 (hHeld.2.2.2.2.2.2.2.1)))))))))))), (cf NB155_147 ((cf NB155_147 ((cf NB155_147 ((cf NB155_147 ((cf NB155_147 ((cf NB155_147 (hHeld.2.2.2.2.2.2.2.2.1)))))))))))), (cf NB155_147 ((cf NB155_147 ((cf NB155_147 ((cf NB155_147 ((cf NB155_147 ((cf NB155_147 (hHeld.2.2.2.2.2.2.2.2.2))))))))))))⟩ (fun hHeld => ?_)
         clear hK K
         refine one_ (i := 3) (N := none) #[true, true, true, true, false] rfl rfl (by kernel_rfl) (by decide) (fun K hK => ?_)
         have hs171 : w164.cell? ⟨gb148, 0, none⟩ = some (.int .i64 0) := (blk_cell BK148.out 0).trans rfl
         have hfs171 := blk_frozen BK148.out 0
         have hns171_0 := NB145_148.out; have hns171_1 := NB146_148.out; have hns171_2 := NB147_148.out; have hns171_4 := NB155_148.out; have hns171_5 := NB164_148.out; have hms171_0 := NB148_145.out; have hms171_1 := NB148_146.out; have hms171_2 := NB148_147.out; have hms171_4 := NB148_155.out; have hms171_5 := NB148_164.out
         have hs172 : w164.cell? ⟨gb148, 1, none⟩ = some (.int .i64 0) := (blk_cell BK148.out 1).trans rfl
         have hfs172 := blk_frozen BK148.out 1
         have hns172_0 := NB145_148.out; have hns172_1 := NB146_148.out; have hns172_2 := NB147_148.out; have hns172_4 := NB155_148.out; have hns172_5 := NB164_148.out; have hms172_0 := NB148_145.out; have hms172_1 := NB148_146.out; have hms172_2 := NB148_147.out; have hms172_4 := NB148_155.out; have hms172_5 := NB148_164.out
         have hs173 : w164.cell? ⟨gb148, 2, none⟩ = some (.int .i64 0) := (blk_cell BK148.out 2).trans rfl
         have hfs173 := blk_frozen BK148.out 2
         have hns173_0 := NB145_148.out; have hns173_1 := NB146_148.out; have hns173_2 := NB147_148.out; have hns173_4 := NB155_148.out; have hns173_5 := NB164_148.out; have hms173_0 := NB148_145.out; have hms173_1 := NB148_146.out; have hms173_2 := NB148_147.out; have hms173_4 := NB148_155.out; have hms173_5 := NB148_164.out
         have hs174 : w164.cell? ⟨gb148, 3, none⟩ = some (.int .i64 0) := (blk_cell BK148.out 3).trans rfl
         have hfs174 := blk_frozen BK148.out 3
         have hns174_0 := NB145_148.out; have hns174_1 := NB146_148.out; have hns174_2 := NB147_148.out; have hns174_4 := NB155_148.out; have hns174_5 := NB164_148.out; have hms174_0 := NB148_145.out; have hms174_1 := NB148_146.out; have hms174_2 := NB148_147.out; have hms174_4 := NB148_155.out; have hms174_5 := NB148_164.out
         refine skip_ (w1 := ?_) (by rfl) rfl ?_ ?_
         rotate_left
         ·go_simp
          rfl
         refine hK.out _ _ ⟨(cf NB164_148 ((cf NB164_148 ((cf NB164_148 ((cf NB164_148 (hHeld.1)))))))), (cf NB164_148 ((cf NB164_148 ((cf NB164_148 ((cf NB164_148 (hHeld.2.1)))))))), (cf NB164_148 ((cf NB164_148 ((cf NB164_148 ((cf NB164_148 (hHeld.2.2.1)))))))), (cf NB164_148 ((cf NB164_148 ((cf NB164_148 ((cf NB164_148 (hHeld.2.2.2.1)))))))), (cf NB164_148 ((cf NB164_148 ((cf NB164_148 ((cf NB164_148 (hHeld.2.2.2.2.1)))))))), (cf NB164_148 ((cf NB164_148 ((cf NB164_148 ((cf NB164_148 (hHeld.2.2.2.2.2.1)))))))), (cf NB155_148 ((cf NB155_148 ((cf NB155_148 ((cf NB155_148 (hHeld.2.2.2.2.2.2.1)))))))), (cf NB155_148 ((cf NB155_148 ((cf NB155_148 ((cf NB155_148 (hHeld.2.2.2.2.2.2.2.1)))))))), (cf NB155_148 ((cf NB155_148 ((cf NB155_148 ((cf NB155_148 (hHeld.2.2.2.2.2.2.2.2.1)))))))), (cf NB155_148 ((cf NB155_148 ((cf NB155_148 ((cf NB155_148 (hHeld.2.2.2.2.2.2.2.2.2))))))))⟩ (fun hHeld => ?_)
         clear hK K
         refine pure_ (i := 4) (N := some 6) (v := ?_) (a' := ?_) #[true, true, true, true, true] rfl rfl (by kernel_rfl) (fun _ _ _ h => h) (Or.inl ⟨by rfl, ?_⟩) ?_ ?_
         rotate_left
         ·intro w'
          go_simp
          with_reducible rfl
         rotate_left
         ·simp only [Act.put, List.setIfInBounds_toArray, List.set_cons_zero, List.set_cons_succ, i64_w, i32_w]
          rfl
         refine done_ (by kernel_rfl) ?_
         try go_wp2
         refine bodyPost_ret (results_list (rs := [.cell 4 26, .cell 5 24, .tmp 6]) rfl (by simp) (.cell gb147 26 #[.int .i64 t160, .int .i64 t161, .int .i64 t162, .int .i64 t163, .string x165004_46, .string a1_5] (0, 0) _ rfl (by refine pl ?_; refine blk_far ?_ NB147_148.out _; refine pl ?_; refine blk_far ?_ NB147_148.out _; refine pl ?_; refine blk_far ?_ NB147_148.out _; refine pl ?_; refine blk_far ?_ NB147_148.out _; refine pl ?_; refine blk_put (cs := #[.int .i64 t160, .int .i64 t161, .int .i64 t162, .int .i64 t163, .string x165004_46, .string (⟨#[]⟩ : ByteArray)]) ?_ 5 _ rfl; refine pl ?_; refine blk_put (cs := #[.int .i64 t160, .int .i64 t161, .int .i64 t162, .int .i64 t163, .string (⟨#[]⟩ : ByteArray), .string (⟨#[]⟩ : ByteArray)]) ?_ 4 _ rfl; refine pl ?_; refine blk_put (cs := #[.int .i64 t160, .int .i64 t161, .int .i64 t162, .int .i64 0, .string (⟨#[]⟩ : ByteArray), .string (⟨#[]⟩ : ByteArray)]) ?_ 3 _ rfl; refine pl ?_; refine blk_put (cs := #[.int .i64 t160, .int .i64 t161, .int .i64 0, .int .i64 0, .string (⟨#[]⟩ : ByteArray), .string (⟨#[]⟩ : ByteArray)]) ?_ 2 _ rfl; refine pl ?_; refine blk_put (cs := #[.int .i64 t160, .int .i64 0, .int .i64 0, .int .i64 0, .string (⟨#[]⟩ : ByteArray), .string (⟨#[]⟩ : ByteArray)]) ?_ 1 _ rfl; refine pl ?_; refine blk_put (cs := #[.int .i64 0, .int .i64 0, .int .i64 0, .int .i64 0, .string (⟨#[]⟩ : ByteArray), .string (⟨#[]⟩ : ByteArray)]) ?_ 0 _ rfl; refine pl ?_; exact BK147.out) Tryd.underlying26 rfl (by kernel_rfl) (.cell gb148 24 #[.int .i64 t151, .int .i64 t152, .int .i64 t153, .int .i64 t154] (0, 0) _ rfl (by refine pl ?_; refine blk_put (cs := #[.int .i64 t151, .int .i64 t152, .int .i64 t153, .int .i64 0]) ?_ 3 _ rfl; refine pl ?_; refine blk_put (cs := #[.int .i64 t151, .int .i64 t152, .int .i64 0, .int .i64 0]) ?_ 2 _ rfl; refine pl ?_; refine blk_put (cs := #[.int .i64 t151, .int .i64 0, .int .i64 0, .int .i64 0]) ?_ 1 _ rfl; refine pl ?_; refine blk_put (cs := #[.int .i64 0, .int .i64 0, .int .i64 0, .int .i64 0]) ?_ 0 _ rfl; refine pl ?_; refine blk_far ?_ NB148_147.out _; refine pl ?_; refine blk_far ?_ NB148_147.out _; refine pl ?_; refine blk_far ?_ NB148_147.out _; refine pl ?_; refine blk_far ?_ NB148_147.out _; refine pl ?_; refine blk_far ?_ NB148_147.out _; refine pl ?_; refine blk_far ?_ NB148_147.out _; refine pl ?_; exact BK148.out) Tryd.underlying24 rfl (by kernel_rfl) (.tmp .nil)))) rfl ?_
         exact ⟨by first | rfl | (simp [*] <;> rfl), by repeat (first | (with_reducible first | exact HB.out | apply below_alloc | apply pw_below_drewN | apply below_drew1 | refine below_set ?_ GE145.out | refine below_set ?_ GE146.out | refine below_set ?_ GE147.out | refine below_set ?_ GE148.out | refine below_set ?_ GE155.out | refine below_set ?_ GE164.out) | exact HB.out)⟩
        ·replace c151 := Bool.eq_false_iff.mpr c151
         subst c151
         have H1 : (some (0, 0, 0, 0, (⟨#[]⟩ : ByteArray), (⟨#[]⟩ : ByteArray), 0, 0, 0, 0, 50)) = some (r1, r2, r3, r4, r5, r6, r7, r8, r9, r10, r11) := by rw [if_neg (show ¬ (false = true) by decide)] at H; exact H
         clear H; have H := H1; clear H1
         simp only [Option.some.injEq, Prod.mk.injEq] at H
         obtain ⟨rfl, rfl, rfl, rfl, rfl, rfl, rfl, rfl, rfl, rfl, rfl⟩ := H
         have hnb175 := NB146_145.out; have hnc175 := NB145_146.out; have hnb176 := NB146_147.out; have hnc176 := NB147_146.out; have hnb177 := NB146_148.out; have hnc177 := NB148_146.out; have hnb178 := NB146_155.out; have hnc178 := NB155_146.out; have hnb179 := NB146_164.out; have hnc179 := NB164_146.out; obtain ⟨hcz180_0, hcz180_1, hcz180_2, hcz180_3, hcz180_4, hcz180_5⟩ := c6 BK146.out; obtain ⟨hfz180_0, hfz180_1, hfz180_2, hfz180_3, hfz180_4, hfz180_5⟩ := f6 BK146.out; have hnb181 := NB164_145.out; have hnc181 := NB145_164.out; have hnb182 := NB164_147.out; have hnc182 := NB147_164.out; have hnb183 := NB164_148.out; have hnc183 := NB148_164.out; have hnb184 := NB164_155.out; have hnc184 := NB155_164.out; obtain ⟨hcz185_0, hcz185_1, hcz185_2, hcz185_3, hcz185_4, hcz185_5⟩ := c6 BK164.out; obtain ⟨hfz185_0, hfz185_1, hfz185_2, hfz185_3, hfz185_4, hfz185_5⟩ := f6 BK164.out
         go_wp2_with (first | ((with_reducible refine gate_callee (f := 11) rfl ?_); refine goesL_ (some 69) rfl rfl Tryd.func11 (by kernel_rfl) rfl #[.agg #[.int .i64 t160, .int .i64 t161, .int .i64 t162, .int .i64 t163, .string x165004_46, .string a1_5]] rfl (by (try simp only [List.map_toArray, List.map_cons, List.map_nil]); first | done | rfl | (simp only [List.length_drop, List.length_take]; rfl)) ?_; (with_reducible refine (weld_Valid.calls kj46 t160 t161 t162 t163 x165004_46 a1_5 false _ ?side1 A150.out).mono ?_); (case side1 => first | (with_reducible exact HG.out) | exact Glob.Globs_below HG.out (by repeat (first | (with_reducible first | exact HB.out | apply below_alloc | apply pw_below_drewN | apply below_drew1 | refine below_set ?_ GE145.out | refine below_set ?_ GE146.out | refine below_set ?_ GE147.out | refine below_set ?_ GE148.out | refine below_set ?_ GE155.out | refine below_set ?_ GE164.out) | exact HB.out))); rintro e w186 ⟨rfl, hb⟩; refine ⟨_, rfl, ?_⟩; replace BK145 := Aside0.mk (blk_below (pl BK145.out) hb); replace BK146 := Aside0.mk (blk_below (pl BK146.out) hb); replace BK147 := Aside0.mk (blk_below (pl BK147.out) hb); replace BK148 := Aside0.mk (blk_below (pl BK148.out) hb); replace BK155 := Aside0.mk (blk_below (pl BK155.out) hb); replace BK164 := Aside0.mk (blk_below (pl BK164.out) hb); replace HB := Aside0.mk (below_step (by repeat (first | (with_reducible first | exact HB.out | apply below_alloc | apply pw_below_drewN | apply below_drew1 | refine below_set ?_ GE145.out | refine below_set ?_ GE146.out | refine below_set ?_ GE147.out | refine below_set ?_ GE148.out | refine below_set ?_ GE155.out | refine below_set ?_ GE164.out) | exact HB.out)) hb); (try clear hb); (try clear hb2); (try clear hk); (try clear hi); have hnb187 := NB147_145.out; have hnc187 := NB145_147.out; have hnb188 := NB147_148.out; have hnc188 := NB148_147.out; have hnb189 := NB147_155.out; have hnc189 := NB155_147.out; obtain ⟨hcz190_0, hcz190_1, hcz190_2, hcz190_3, hcz190_4, hcz190_5⟩ := c6 BK147.out; obtain ⟨hfz190_0, hfz190_1, hfz190_2, hfz190_3, hfz190_4, hfz190_5⟩ := f6 BK147.out; have hnb191 := NB148_145.out; have hnc191 := NB145_148.out; have hnb192 := NB148_155.out; have hnc192 := NB155_148.out; obtain ⟨hcz193_0, hcz193_1, hcz193_2, hcz193_3⟩ := c4 BK148.out; obtain ⟨hfz193_0, hfz193_1, hfz193_2, hfz193_3⟩ := f4 BK148.out))
         refine bodyPost_ret (results_list (rs := [.cell 4 26, .cell 5 24, .tmp 6]) rfl (by simp) (.cell gb147 26 #[.int .i64 0, .int .i64 0, .int .i64 0, .int .i64 0, .string (⟨#[]⟩ : ByteArray), .string (⟨#[]⟩ : ByteArray)] (0, 0) _ rfl (by refine pl ?_; refine blk_far ?_ NB147_148.out _; refine pl ?_; refine blk_far ?_ NB147_148.out _; refine pl ?_; refine blk_far ?_ NB147_148.out _; refine pl ?_; refine blk_far ?_ NB147_148.out _; refine pl ?_; refine blk_put (cs := #[.int .i64 0, .int .i64 0, .int .i64 0, .int .i64 0, .string (⟨#[]⟩ : ByteArray), .string (⟨#[]⟩ : ByteArray)]) ?_ 5 _ rfl; refine pl ?_; refine blk_put (cs := #[.int .i64 0, .int .i64 0, .int .i64 0, .int .i64 0, .string (⟨#[]⟩ : ByteArray), .string (⟨#[]⟩ : ByteArray)]) ?_ 4 _ rfl; refine pl ?_; refine blk_put (cs := #[.int .i64 0, .int .i64 0, .int .i64 0, .int .i64 0, .string (⟨#[]⟩ : ByteArray), .string (⟨#[]⟩ : ByteArray)]) ?_ 3 _ rfl; refine pl ?_; refine blk_put (cs := #[.int .i64 0, .int .i64 0, .int .i64 0, .int .i64 0, .string (⟨#[]⟩ : ByteArray), .string (⟨#[]⟩ : ByteArray)]) ?_ 2 _ rfl; refine pl ?_; refine blk_put (cs := #[.int .i64 0, .int .i64 0, .int .i64 0, .int .i64 0, .string (⟨#[]⟩ : ByteArray), .string (⟨#[]⟩ : ByteArray)]) ?_ 1 _ rfl; refine pl ?_; refine blk_put (cs := #[.int .i64 0, .int .i64 0, .int .i64 0, .int .i64 0, .string (⟨#[]⟩ : ByteArray), .string (⟨#[]⟩ : ByteArray)]) ?_ 0 _ rfl; refine pl ?_; exact BK147.out) Tryd.underlying26 rfl (by kernel_rfl) (.cell gb148 24 #[.int .i64 0, .int .i64 0, .int .i64 0, .int .i64 0] (0, 0) _ rfl (by refine pl ?_; refine blk_put (cs := #[.int .i64 0, .int .i64 0, .int .i64 0, .int .i64 0]) ?_ 3 _ rfl; refine pl ?_; refine blk_put (cs := #[.int .i64 0, .int .i64 0, .int .i64 0, .int .i64 0]) ?_ 2 _ rfl; refine pl ?_; refine blk_put (cs := #[.int .i64 0, .int .i64 0, .int .i64 0, .int .i64 0]) ?_ 1 _ rfl; refine pl ?_; refine blk_put (cs := #[.int .i64 0, .int .i64 0, .int .i64 0, .int .i64 0]) ?_ 0 _ rfl; refine pl ?_; refine blk_far ?_ NB148_147.out _; refine pl ?_; refine blk_far ?_ NB148_147.out _; refine pl ?_; refine blk_far ?_ NB148_147.out _; refine pl ?_; refine blk_far ?_ NB148_147.out _; refine pl ?_; refine blk_far ?_ NB148_147.out _; refine pl ?_; refine blk_far ?_ NB148_147.out _; refine pl ?_; exact BK148.out) Tryd.underlying24 rfl (by kernel_rfl) (.tmp .nil)))) rfl ?_
         exact ⟨by first | rfl | (simp [*] <;> rfl), by repeat (first | (with_reducible first | exact HB.out | apply below_alloc | apply pw_below_drewN | apply below_drew1 | refine below_set ?_ GE145.out | refine below_set ?_ GE146.out | refine below_set ?_ GE147.out | refine below_set ?_ GE148.out | refine below_set ?_ GE155.out | refine below_set ?_ GE164.out) | exact HB.out)⟩
end Go.Proofs.YtaojbcplmdjfnaaDoor.Pr

namespace Go.Proofs.YtaojbcplmdjfnaaDoor.Pr
open Go.RowKit Go.Proofs.YtaojbcplmdjfnaaDoorW.PrintWords Go.Proofs.YtaojbcplmdjfnaaDoorW.PrintLast Go.Proofs.YtaojbcplmdjfnaaDoorW.PrintMore
attribute [local go_sem] max2_int min2_int max_two min_two max_three min_three max_four min_four   -- for this text's walks alone
set_option linter.unusedVariables false
set_option linter.unusedSimpArgs false
def weld_Join.f (k : Nat) (a0_0 : Int) (a0_1 : Int) (a0_2 : Int) (a0_3 : Int) (a0_4 : ByteArray) (a0_5 : ByteArray) (a1_0 : Int) (a1_1 : Int) (a1_2 : Int) (a1_3 : Int) (a1_4 : ByteArray) (a1_5 : ByteArray) : Option (Int × Int × Int × Int × ByteArray × ByteArray × Int) := (weld_both.f k a0_0 a0_1 a0_2 a0_3 a0_4 a0_5 a1_0 a1_1 a1_2 a1_3 a1_4 a1_5).bind fun bt172 => (some (bt172.1, bt172.2.1, bt172.2.2.1, bt172.2.2.2.1, bt172.2.2.2.2.1, bt172.2.2.2.2.2.1, bt172.2.2.2.2.2.2.2.2.2.2))
set_option maxHeartbeats 8000000 in
set_option maxRecDepth 100000 in
theorem weld_Join.calls (k : Nat) (a0_0 : Int) (a0_1 : Int) (a0_2 : Int) (a0_3 : Int) (a0_4 : ByteArray) (a0_5 : ByteArray) (a1_0 : Int) (a1_1 : Int) (a1_2 : Int) (a1_3 : Int) (a1_4 : ByteArray) (a1_5 : ByteArray) (r1 : Int) (r2 : Int) (r3 : Int) (r4 : Int) (r5 : ByteArray) (r6 : ByteArray) (r7 : Int) (w : World) (hG : Glob.Globs w) (h : weld_Join.f k a0_0 a0_1 a0_2 a0_3 a0_4 a0_5 a1_0 a1_1 a1_2 a1_3 a1_4 a1_5 = some (r1, r2, r3, r4, r5, r6, r7)) :
  Calls Tryd.prog 17 #[.agg #[.int .i64 a0_0, .int .i64 a0_1, .int .i64 a0_2, .int .i64 a0_3, .string a0_4, .string a0_5], .agg #[.int .i64 a1_0, .int .i64 a1_1, .int .i64 a1_2, .int .i64 a1_3, .string a1_4, .string a1_5]] w fun e w' => e = .returned (.tuple #[.agg #[.int .i64 r1, .int .i64 r2, .int .i64 r3, .int .i64 r4, .string r5, .string r6], .int .i64 r7]) ∧ Below w.heap.size w w' := by
 have hu26 := Tryd.underlying26
 have hu24 := Tryd.underlying24
 have HG := Aside0.mk hG; clear hG
 have HB := Aside0.mk (Below.refl w.heap.size w)
 have H : ((weld_both.f k a0_0 a0_1 a0_2 a0_3 a0_4 a0_5 a1_0 a1_1 a1_2 a1_3 a1_4 a1_5).bind fun bt172 => (some (bt172.1, bt172.2.1, bt172.2.2.1, bt172.2.2.2.1, bt172.2.2.2.2.1, bt172.2.2.2.2.2.1, bt172.2.2.2.2.2.2.2.2.2.2))) = some (r1, r2, r3, r4, r5, r6, r7) := h
 clear h
 replace H := Option.bind_eq_some_iff.mp H
 obtain ⟨⟨t172, t173, t174, t175, t176, t177, t178, t179, t180, t181, t182⟩, A30, H⟩ := H
 replace H : (some (t172, t173, t174, t175, t176, t177, t182)) = some (r1, r2, r3, r4, r5, r6, r7) := H
 have A3 := Aside0.mk A30; clear A30
 simp only [Option.some.injEq, Prod.mk.injEq] at H
 obtain ⟨rfl, rfl, rfl, rfl, rfl, rfl, rfl⟩ := H
 go_enter Tryd.func17, Tryd.ntmps17
 go_wp2_with (first | ((with_reducible refine gate_dst (N := 2) rfl ?_); refine box_event ?hg (N := 2) ?hd (cs := #[.int .i64 a0_0, .int .i64 a0_1, .int .i64 a0_2, .int .i64 a0_3, .string a0_4, .string a0_5]) (t := 26) ?hr ?_; (case hd => rfl); (case hg => rfl); (case hr => first | (go_simp; done) | (go_simp; rfl)); intro gb169 hg w4 hbox hb; have BK169 := Aside0.mk (hbox); have GW169 := Aside0.mk ((by rw [hg]; exact (below_size (bl HB.out)) : w.heap.size ≤ gb169)); have GE169 := GW169; replace HB := Aside0.mk (below_step (bl HB.out) hb); clear hb hbox hg) | ((with_reducible refine gate_dst (N := 3) rfl ?_); refine box_event ?hg (N := 3) ?hd (cs := #[.int .i64 a1_0, .int .i64 a1_1, .int .i64 a1_2, .int .i64 a1_3, .string a1_4, .string a1_5]) (t := 26) ?hr ?_; (case hd => rfl); (case hg => rfl); (case hr => first | (go_simp; done) | (go_simp; rfl)); intro gb170 hg w5 hbox hb; have BK170 := Aside0.mk (hbox); have GW170 := Aside0.mk ((by rw [hg]; exact (below_size (by repeat (first | (with_reducible first | exact HB.out | apply below_alloc | apply pw_below_drewN | apply below_drew1 | refine below_set ?_ GE169.out) | exact HB.out))) : w.heap.size ≤ gb170)); have GE170 := GW170; replace HB := Aside0.mk (below_step (by repeat (first | (with_reducible first | exact HB.out | apply below_alloc | apply pw_below_drewN | apply below_drew1 | refine below_set ?_ GE169.out) | exact HB.out)) hb); obtain ⟨NB169_170, NB170_169⟩ := nbp hg (pl BK169.out); replace BK169 := Aside0.mk (blk_below (pl BK169.out) hb); clear hb hbox hg) | ((with_reducible refine gate_dst (N := 4) rfl ?_); refine box_event ?hg (N := 4) ?hd (cs := #[.int .i64 0, .int .i64 0, .int .i64 0, .int .i64 0, .string (⟨#[]⟩ : ByteArray), .string (⟨#[]⟩ : ByteArray)]) (t := 26) ?hr ?_; (case hd => rfl); (case hg => rfl); (case hr => first | (go_simp; done) | (go_simp; rfl)); intro gb171 hg w6 hbox hb; have BK171 := Aside0.mk (hbox); have GW171 := Aside0.mk ((by rw [hg]; exact (below_size (by repeat (first | (with_reducible first | exact HB.out | apply below_alloc | apply pw_below_drewN | apply below_drew1 | refine below_set ?_ GE169.out | refine below_set ?_ GE170.out) | exact HB.out))) : w.heap.size ≤ gb171)); have GE171 := GW171; replace HB := Aside0.mk (below_step (by repeat (first | (with_reducible first | exact HB.out | apply below_alloc | apply pw_below_drewN | apply below_drew1 | refine below_set ?_ GE169.out | refine below_set ?_ GE170.out) | exact HB.out)) hb); obtain ⟨NB169_171, NB171_169⟩ := nbp hg (pl BK169.out); replace BK169 := Aside0.mk (blk_below (pl BK169.out) hb); obtain ⟨NB170_171, NB171_170⟩ := nbp hg (pl BK170.out); replace BK170 := Aside0.mk (blk_below (pl BK170.out) hb); clear hb hbox hg; have hnb7 := NB169_170.out; have hnc7 := NB170_169.out; have hnb8 := NB169_171.out; have hnc8 := NB171_169.out; obtain ⟨hcz9_0, hcz9_1, hcz9_2, hcz9_3, hcz9_4, hcz9_5⟩ := c6 BK169.out; obtain ⟨hfz9_0, hfz9_1, hfz9_2, hfz9_3, hfz9_4, hfz9_5⟩ := f6 BK169.out; have hnb10 := NB170_171.out; have hnc10 := NB171_170.out; obtain ⟨hcz11_0, hcz11_1, hcz11_2, hcz11_3, hcz11_4, hcz11_5⟩ := c6 BK170.out; obtain ⟨hfz11_0, hfz11_1, hfz11_2, hfz11_3, hfz11_4, hfz11_5⟩ := f6 BK170.out) | ((with_reducible refine gate_callee (f := 32) rfl ?_); refine goesL_ (some 12) rfl rfl Tryd.func32 (by kernel_rfl) rfl #[.agg #[.int .i64 a0_0, .int .i64 a0_1, .int .i64 a0_2, .int .i64 a0_3, .string a0_4, .string a0_5], .agg #[.int .i64 a1_0, .int .i64 a1_1, .int .i64 a1_2, .int .i64 a1_3, .string a1_4, .string a1_5]] rfl (by (try simp only [List.map_toArray, List.map_cons, List.map_nil]); first | done | rfl | (simp only [List.length_drop, List.length_take]; rfl)) ?_; (with_reducible refine (weld_both.calls k a0_0 a0_1 a0_2 a0_3 a0_4 a0_5 a1_0 a1_1 a1_2 a1_3 a1_4 a1_5 t172 t173 t174 t175 t176 t177 t178 t179 t180 t181 t182 _ ?side1 A3.out).mono ?_); (case side1 => first | (with_reducible exact HG.out) | exact Glob.Globs_below HG.out (by repeat (first | (with_reducible first | exact HB.out | apply below_alloc | apply pw_below_drewN | apply below_drew1 | refine below_set ?_ GE169.out | refine below_set ?_ GE170.out | refine below_set ?_ GE171.out) | exact HB.out))); rintro e w12 ⟨rfl, hb⟩; refine ⟨_, rfl, ?_⟩; replace BK169 := Aside0.mk (blk_below (pl BK169.out) hb); replace BK170 := Aside0.mk (blk_below (pl BK170.out) hb); replace BK171 := Aside0.mk (blk_below (pl BK171.out) hb); replace HB := Aside0.mk (below_step (by repeat (first | (with_reducible first | exact HB.out | apply below_alloc | apply pw_below_drewN | apply below_drew1 | refine below_set ?_ GE169.out | refine below_set ?_ GE170.out | refine below_set ?_ GE171.out) | exact HB.out)) hb); (try clear hb); (try clear hb2); (try clear hk); (try clear hi)) | ((with_reducible refine gate_dst (N := 6) rfl ?_); refine box_event ?hg (N := 6) ?hd (cs := #[.int .i64 0, .int .i64 0, .int .i64 0, .int .i64 0, .string (⟨#[]⟩ : ByteArray), .string (⟨#[]⟩ : ByteArray)]) (t := 26) ?hr ?_; (case hd => rfl); (case hg => rfl); (case hr => first | (go_simp; done) | (go_simp; rfl)); intro gb183 hg w13 hbox hb; have BK183 := Aside0.mk (hbox); have GW183 := Aside0.mk ((by rw [hg]; exact (below_size (by repeat (first | (with_reducible first | exact HB.out | apply below_alloc | apply pw_below_drewN | apply below_drew1 | refine below_set ?_ GE169.out | refine below_set ?_ GE170.out | refine below_set ?_ GE171.out) | exact HB.out))) : w.heap.size ≤ gb183)); have GE183 := GW183; replace HB := Aside0.mk (below_step (by repeat (first | (with_reducible first | exact HB.out | apply below_alloc | apply pw_below_drewN | apply below_drew1 | refine below_set ?_ GE169.out | refine below_set ?_ GE170.out | refine below_set ?_ GE171.out) | exact HB.out)) hb); obtain ⟨NB169_183, NB183_169⟩ := nbp hg (pl BK169.out); replace BK169 := Aside0.mk (blk_below (pl BK169.out) hb); obtain ⟨NB170_183, NB183_170⟩ := nbp hg (pl BK170.out); replace BK170 := Aside0.mk (blk_below (pl BK170.out) hb); obtain ⟨NB171_183, NB183_171⟩ := nbp hg (pl BK171.out); replace BK171 := Aside0.mk (blk_below (pl BK171.out) hb); clear hb hbox hg) | ((with_reducible refine gate_dst (N := 7) rfl ?_); refine box_event ?hg (N := 7) ?hd (cs := #[.int .i64 0, .int .i64 0, .int .i64 0, .int .i64 0]) (t := 24) ?hr ?_; (case hd => rfl); (case hg => rfl); (case hr => first | (go_simp; done) | (go_simp; rfl)); intro gb184 hg w14 hbox hb; have BK184 := Aside0.mk (hbox); have GW184 := Aside0.mk ((by rw [hg]; exact (below_size (by repeat (first | (with_reducible first | exact HB.out | apply below_alloc | apply pw_below_drewN | apply below_drew1 | refine below_set ?_ GE169.out | refine below_set ?_ GE170.out | refine below_set ?_ GE171.out | refine below_set ?_ GE183.out) | exact HB.out))) : w.heap.size ≤ gb184)); have GE184 := GW184; replace HB := Aside0.mk (below_step (by repeat (first | (with_reducible first | exact HB.out | apply below_alloc | apply pw_below_drewN | apply below_drew1 | refine below_set ?_ GE169.out | refine below_set ?_ GE170.out | refine below_set ?_ GE171.out | refine below_set ?_ GE183.out) | exact HB.out)) hb); obtain ⟨NB169_184, NB184_169⟩ := nbp hg (pl BK169.out); replace BK169 := Aside0.mk (blk_below (pl BK169.out) hb); obtain ⟨NB170_184, NB184_170⟩ := nbp hg (pl BK170.out); replace BK170 := Aside0.mk (blk_below (pl BK170.out) hb); obtain ⟨NB171_184, NB184_171⟩ := nbp hg (pl BK171.out); replace BK171 := Aside0.mk (blk_below (pl BK171.out) hb); obtain ⟨NB183_184, NB184_183⟩ := nbp hg (pl BK183.out); replace BK183 := Aside0.mk (blk_below (pl BK183.out) hb); clear hb hbox hg; have hnb15 := NB183_169.out; have hnc15 := NB169_183.out; have hnb16 := NB183_170.out; have hnc16 := NB170_183.out; have hnb17 := NB183_171.out; have hnc17 := NB171_183.out; have hnb18 := NB183_184.out; have hnc18 := NB184_183.out; obtain ⟨hcz19_0, hcz19_1, hcz19_2, hcz19_3, hcz19_4, hcz19_5⟩ := c6 BK183.out; obtain ⟨hfz19_0, hfz19_1, hfz19_2, hfz19_3, hfz19_4, hfz19_5⟩ := f6 BK183.out; have hnb20 := NB184_169.out; have hnc20 := NB169_184.out; have hnb21 := NB184_170.out; have hnc21 := NB170_184.out; have hnb22 := NB184_171.out; have hnc22 := NB171_184.out; obtain ⟨hcz23_0, hcz23_1, hcz23_2, hcz23_3⟩ := c4 BK184.out; obtain ⟨hfz23_0, hfz23_1, hfz23_2, hfz23_3⟩ := f4 BK184.out; obtain ⟨hcz24_0, hcz24_1, hcz24_2, hcz24_3, hcz24_4, hcz24_5⟩ := c6 BK171.out; obtain ⟨hfz24_0, hfz24_1, hfz24_2, hfz24_3, hfz24_4, hfz24_5⟩ := f6 BK171.out))
 refine bodyPost_ret (results_ct rfl _ _ gb171 26 #[.int .i64 t172, .int .i64 t173, .int .i64 t174, .int .i64 t175, .string t176, .string t177] (0, 0) _ rfl (by refine pl ?_; refine blk_put (cs := #[.int .i64 t172, .int .i64 t173, .int .i64 t174, .int .i64 t175, .string t176, .string (⟨#[]⟩ : ByteArray)]) ?_ 5 _ rfl; refine pl ?_; refine blk_put (cs := #[.int .i64 t172, .int .i64 t173, .int .i64 t174, .int .i64 t175, .string (⟨#[]⟩ : ByteArray), .string (⟨#[]⟩ : ByteArray)]) ?_ 4 _ rfl; refine pl ?_; refine blk_put (cs := #[.int .i64 t172, .int .i64 t173, .int .i64 t174, .int .i64 0, .string (⟨#[]⟩ : ByteArray), .string (⟨#[]⟩ : ByteArray)]) ?_ 3 _ rfl; refine pl ?_; refine blk_put (cs := #[.int .i64 t172, .int .i64 t173, .int .i64 0, .int .i64 0, .string (⟨#[]⟩ : ByteArray), .string (⟨#[]⟩ : ByteArray)]) ?_ 2 _ rfl; refine pl ?_; refine blk_put (cs := #[.int .i64 t172, .int .i64 0, .int .i64 0, .int .i64 0, .string (⟨#[]⟩ : ByteArray), .string (⟨#[]⟩ : ByteArray)]) ?_ 1 _ rfl; refine pl ?_; refine blk_put (cs := #[.int .i64 0, .int .i64 0, .int .i64 0, .int .i64 0, .string (⟨#[]⟩ : ByteArray), .string (⟨#[]⟩ : ByteArray)]) ?_ 0 _ rfl; refine pl ?_; refine blk_far ?_ NB171_184.out _; refine pl ?_; refine blk_far ?_ NB171_184.out _; refine pl ?_; refine blk_far ?_ NB171_184.out _; refine pl ?_; refine blk_far ?_ NB171_184.out _; refine pl ?_; refine blk_far ?_ NB171_183.out _; refine pl ?_; refine blk_far ?_ NB171_183.out _; refine pl ?_; refine blk_far ?_ NB171_183.out _; refine pl ?_; refine blk_far ?_ NB171_183.out _; refine pl ?_; refine blk_far ?_ NB171_183.out _; refine pl ?_; refine blk_far ?_ NB171_183.out _; refine pl ?_; exact BK171.out) Tryd.underlying26 rfl (by kernel_rfl)) rfl ?_
 exact ⟨by first | rfl | (simp [errW_none, errW_some] <;> rfl) | (simp [*, errW_none, errW_some] <;> rfl), by repeat (first | (with_reducible first | exact HB.out | apply below_alloc | apply pw_below_drewN | apply below_drew1 | refine below_set ?_ GE169.out | refine below_set ?_ GE170.out | refine below_set ?_ GE171.out | refine below_set ?_ GE183.out | refine below_set ?_ GE184.out) | exact HB.out)⟩
def weld_Seam.f (k : Nat) (a0_0 : Int) (a0_1 : Int) (a0_2 : Int) (a0_3 : Int) (a0_4 : ByteArray) (a0_5 : ByteArray) (a1_0 : Int) (a1_1 : Int) (a1_2 : Int) (a1_3 : Int) (a1_4 : ByteArray) (a1_5 : ByteArray) : Option (Int × Int × Int × Int × Int) := (weld_both.f k a0_0 a0_1 a0_2 a0_3 a0_4 a0_5 a1_0 a1_1 a1_2 a1_3 a1_4 a1_5).bind fun bt188 => (some (bt188.2.2.2.2.2.2.1, bt188.2.2.2.2.2.2.2.1, bt188.2.2.2.2.2.2.2.2.1, bt188.2.2.2.2.2.2.2.2.2.1, bt188.2.2.2.2.2.2.2.2.2.2))
set_option maxHeartbeats 8000000 in
set_option maxRecDepth 100000 in
theorem weld_Seam.calls (k : Nat) (a0_0 : Int) (a0_1 : Int) (a0_2 : Int) (a0_3 : Int) (a0_4 : ByteArray) (a0_5 : ByteArray) (a1_0 : Int) (a1_1 : Int) (a1_2 : Int) (a1_3 : Int) (a1_4 : ByteArray) (a1_5 : ByteArray) (r1 : Int) (r2 : Int) (r3 : Int) (r4 : Int) (r5 : Int) (w : World) (hG : Glob.Globs w) (h : weld_Seam.f k a0_0 a0_1 a0_2 a0_3 a0_4 a0_5 a1_0 a1_1 a1_2 a1_3 a1_4 a1_5 = some (r1, r2, r3, r4, r5)) :
  Calls Tryd.prog 19 #[.agg #[.int .i64 a0_0, .int .i64 a0_1, .int .i64 a0_2, .int .i64 a0_3, .string a0_4, .string a0_5], .agg #[.int .i64 a1_0, .int .i64 a1_1, .int .i64 a1_2, .int .i64 a1_3, .string a1_4, .string a1_5]] w fun e w' => e = .returned (.tuple #[.agg #[.int .i64 r1, .int .i64 r2, .int .i64 r3, .int .i64 r4], .int .i64 r5]) ∧ Below w.heap.size w w' := by
 have hu26 := Tryd.underlying26
 have hu24 := Tryd.underlying24
 have HG := Aside0.mk hG; clear hG
 have HB := Aside0.mk (Below.refl w.heap.size w)
 have H : ((weld_both.f k a0_0 a0_1 a0_2 a0_3 a0_4 a0_5 a1_0 a1_1 a1_2 a1_3 a1_4 a1_5).bind fun bt188 => (some (bt188.2.2.2.2.2.2.1, bt188.2.2.2.2.2.2.2.1, bt188.2.2.2.2.2.2.2.2.1, bt188.2.2.2.2.2.2.2.2.2.1, bt188.2.2.2.2.2.2.2.2.2.2))) = some (r1, r2, r3, r4, r5) := h
 clear h
 replace H := Option.bind_eq_some_iff.mp H
 obtain ⟨⟨t188, t189, t190, t191, t192, t193, t194, t195, t196, t197, t198⟩, A30, H⟩ := H
 replace H : (some (t194, t195, t196, t197, t198)) = some (r1, r2, r3, r4, r5) := H
 have A3 := Aside0.mk A30; clear A30
 simp only [Option.some.injEq, Prod.mk.injEq] at H
 obtain ⟨rfl, rfl, rfl, rfl, rfl⟩ := H
 go_enter Tryd.func19, Tryd.ntmps19
 go_wp2_with (first | ((with_reducible refine gate_dst (N := 2) rfl ?_); refine box_event ?hg (N := 2) ?hd (cs := #[.int .i64 a0_0, .int .i64 a0_1, .int .i64 a0_2, .int .i64 a0_3, .string a0_4, .string a0_5]) (t := 26) ?hr ?_; (case hd => rfl); (case hg => rfl); (case hr => first | (go_simp; done) | (go_simp; rfl)); intro gb185 hg w4 hbox hb; have BK185 := Aside0.mk (hbox); have GW185 := Aside0.mk ((by rw [hg]; exact (below_size (bl HB.out)) : w.heap.size ≤ gb185)); have GE185 := GW185; replace HB := Aside0.mk (below_step (bl HB.out) hb); clear hb hbox hg) | ((with_reducible refine gate_dst (N := 3) rfl ?_); refine box_event ?hg (N := 3) ?hd (cs := #[.int .i64 a1_0, .int .i64 a1_1, .int .i64 a1_2, .int .i64 a1_3, .string a1_4, .string a1_5]) (t := 26) ?hr ?_; (case hd => rfl); (case hg => rfl); (case hr => first | (go_simp; done) | (go_simp; rfl)); intro gb186 hg w5 hbox hb; have BK186 := Aside0.mk (hbox); have GW186 := Aside0.mk ((by rw [hg]; exact (below_size (by repeat (first | (with_reducible first | exact HB.out | apply below_alloc | apply pw_below_drewN | apply below_drew1 | refine below_set ?_ GE185.out) | exact HB.out))) : w.heap.size ≤ gb186)); have GE186 := GW186; replace HB := Aside0.mk (below_step (by repeat (first | (with_reducible first | exact HB.out | apply below_alloc | apply pw_below_drewN | apply below_drew1 | refine below_set ?_ GE185.out) | exact HB.out)) hb); obtain ⟨NB185_186, NB186_185⟩ := nbp hg (pl BK185.out); replace BK185 := Aside0.mk (blk_below (pl BK185.out) hb); clear hb hbox hg) | ((with_reducible refine gate_dst (N := 4) rfl ?_); refine box_event ?hg (N := 4) ?hd (cs := #[.int .i64 0, .int .i64 0, .int .i64 0, .int .i64 0]) (t := 24) ?hr ?_; (case hd => rfl); (case hg => rfl); (case hr => first | (go_simp; done) | (go_simp; rfl)); intro gb187 hg w6 hbox hb; have BK187 := Aside0.mk (hbox); have GW187 := Aside0.mk ((by rw [hg]; exact (below_size (by repeat (first | (with_reducible first | exact HB.out | apply below_alloc | apply pw_below_drewN | apply below_drew1 | refine below_set ?_ GE185.out | refine below_set ?_ GE186.out) | exact HB.out))) : w.heap.size ≤ gb187)); have GE187 := GW187; replace HB := Aside0.mk (below_step (by repeat (first | (with_reducible first | exact HB.out | apply below_alloc | apply pw_below_drewN | apply below_drew1 | refine below_set ?_ GE185.out | refine below_set ?_ GE186.out) | exact HB.out)) hb); obtain ⟨NB185_187, NB187_185⟩ := nbp hg (pl BK185.out); replace BK185 := Aside0.mk (blk_below (pl BK185.out) hb); obtain ⟨NB186_187, NB187_186⟩ := nbp hg (pl BK186.out); replace BK186 := Aside0.mk (blk_below (pl BK186.out) hb); clear hb hbox hg; have hnb7 := NB185_186.out; have hnc7 := NB186_185.out; have hnb8 := NB185_187.out; have hnc8 := NB187_185.out; obtain ⟨hcz9_0, hcz9_1, hcz9_2, hcz9_3, hcz9_4, hcz9_5⟩ := c6 BK185.out; obtain ⟨hfz9_0, hfz9_1, hfz9_2, hfz9_3, hfz9_4, hfz9_5⟩ := f6 BK185.out; have hnb10 := NB186_187.out; have hnc10 := NB187_186.out; obtain ⟨hcz11_0, hcz11_1, hcz11_2, hcz11_3, hcz11_4, hcz11_5⟩ := c6 BK186.out; obtain ⟨hfz11_0, hfz11_1, hfz11_2, hfz11_3, hfz11_4, hfz11_5⟩ := f6 BK186.out) | ((with_reducible refine gate_callee (f := 32) rfl ?_); refine goesL_ (some 12) rfl rfl Tryd.func32 (by kernel_rfl) rfl #[.agg #[.int .i64 a0_0, .int .i64 a0_1, .int .i64 a0_2, .int .i64 a0_3, .string a0_4, .string a0_5], .agg #[.int .i64 a1_0, .int .i64 a1_1, .int .i64 a1_2, .int .i64 a1_3, .string a1_4, .string a1_5]] rfl (by (try simp only [List.map_toArray, List.map_cons, List.map_nil]); first | done | rfl | (simp only [List.length_drop, List.length_take]; rfl)) ?_; (with_reducible refine (weld_both.calls k a0_0 a0_1 a0_2 a0_3 a0_4 a0_5 a1_0 a1_1 a1_2 a1_3 a1_4 a1_5 t188 t189 t190 t191 t192 t193 t194 t195 t196 t197 t198 _ ?side1 A3.out).mono ?_); (case side1 => first | (with_reducible exact HG.out) | exact Glob.Globs_below HG.out (by repeat (first | (with_reducible first | exact HB.out | apply below_alloc | apply pw_below_drewN | apply below_drew1 | refine below_set ?_ GE185.out | refine below_set ?_ GE186.out | refine below_set ?_ GE187.out) | exact HB.out))); rintro e w12 ⟨rfl, hb⟩; refine ⟨_, rfl, ?_⟩; replace BK185 := Aside0.mk (blk_below (pl BK185.out) hb); replace BK186 := Aside0.mk (blk_below (pl BK186.out) hb); replace BK187 := Aside0.mk (blk_below (pl BK187.out) hb); replace HB := Aside0.mk (below_step (by repeat (first | (with_reducible first | exact HB.out | apply below_alloc | apply pw_below_drewN | apply below_drew1 | refine below_set ?_ GE185.out | refine below_set ?_ GE186.out | refine below_set ?_ GE187.out) | exact HB.out)) hb); (try clear hb); (try clear hb2); (try clear hk); (try clear hi)) | ((with_reducible refine gate_dst (N := 6) rfl ?_); refine box_event ?hg (N := 6) ?hd (cs := #[.int .i64 0, .int .i64 0, .int .i64 0, .int .i64 0, .string (⟨#[]⟩ : ByteArray), .string (⟨#[]⟩ : ByteArray)]) (t := 26) ?hr ?_; (case hd => rfl); (case hg => rfl); (case hr => first | (go_simp; done) | (go_simp; rfl)); intro gb199 hg w13 hbox hb; have BK199 := Aside0.mk (hbox); have GW199 := Aside0.mk ((by rw [hg]; exact (below_size (by repeat (first | (with_reducible first | exact HB.out | apply below_alloc | apply pw_below_drewN | apply below_drew1 | refine below_set ?_ GE185.out | refine below_set ?_ GE186.out | refine below_set ?_ GE187.out) | exact HB.out))) : w.heap.size ≤ gb199)); have GE199 := GW199; replace HB := Aside0.mk (below_step (by repeat (first | (with_reducible first | exact HB.out | apply below_alloc | apply pw_below_drewN | apply below_drew1 | refine below_set ?_ GE185.out | refine below_set ?_ GE186.out | refine below_set ?_ GE187.out) | exact HB.out)) hb); obtain ⟨NB185_199, NB199_185⟩ := nbp hg (pl BK185.out); replace BK185 := Aside0.mk (blk_below (pl BK185.out) hb); obtain ⟨NB186_199, NB199_186⟩ := nbp hg (pl BK186.out); replace BK186 := Aside0.mk (blk_below (pl BK186.out) hb); obtain ⟨NB187_199, NB199_187⟩ := nbp hg (pl BK187.out); replace BK187 := Aside0.mk (blk_below (pl BK187.out) hb); clear hb hbox hg) | ((with_reducible refine gate_dst (N := 7) rfl ?_); refine box_event ?hg (N := 7) ?hd (cs := #[.int .i64 0, .int .i64 0, .int .i64 0, .int .i64 0]) (t := 24) ?hr ?_; (case hd => rfl); (case hg => rfl); (case hr => first | (go_simp; done) | (go_simp; rfl)); intro gb200 hg w14 hbox hb; have BK200 := Aside0.mk (hbox); have GW200 := Aside0.mk ((by rw [hg]; exact (below_size (by repeat (first | (with_reducible first | exact HB.out | apply below_alloc | apply pw_below_drewN | apply below_drew1 | refine below_set ?_ GE185.out | refine below_set ?_ GE186.out | refine below_set ?_ GE187.out | refine below_set ?_ GE199.out) | exact HB.out))) : w.heap.size ≤ gb200)); have GE200 := GW200; replace HB := Aside0.mk (below_step (by repeat (first | (with_reducible first | exact HB.out | apply below_alloc | apply pw_below_drewN | apply below_drew1 | refine below_set ?_ GE185.out | refine below_set ?_ GE186.out | refine below_set ?_ GE187.out | refine below_set ?_ GE199.out) | exact HB.out)) hb); obtain ⟨NB185_200, NB200_185⟩ := nbp hg (pl BK185.out); replace BK185 := Aside0.mk (blk_below (pl BK185.out) hb); obtain ⟨NB186_200, NB200_186⟩ := nbp hg (pl BK186.out); replace BK186 := Aside0.mk (blk_below (pl BK186.out) hb); obtain ⟨NB187_200, NB200_187⟩ := nbp hg (pl BK187.out); replace BK187 := Aside0.mk (blk_below (pl BK187.out) hb); obtain ⟨NB199_200, NB200_199⟩ := nbp hg (pl BK199.out); replace BK199 := Aside0.mk (blk_below (pl BK199.out) hb); clear hb hbox hg; have hnb15 := NB199_185.out; have hnc15 := NB185_199.out; have hnb16 := NB199_186.out; have hnc16 := NB186_199.out; have hnb17 := NB199_187.out; have hnc17 := NB187_199.out; have hnb18 := NB199_200.out; have hnc18 := NB200_199.out; obtain ⟨hcz19_0, hcz19_1, hcz19_2, hcz19_3, hcz19_4, hcz19_5⟩ := c6 BK199.out; obtain ⟨hfz19_0, hfz19_1, hfz19_2, hfz19_3, hfz19_4, hfz19_5⟩ := f6 BK199.out; have hnb20 := NB200_185.out; have hnc20 := NB185_200.out; have hnb21 := NB200_186.out; have hnc21 := NB186_200.out; have hnb22 := NB200_187.out; have hnc22 := NB187_200.out; obtain ⟨hcz23_0, hcz23_1, hcz23_2, hcz23_3⟩ := c4 BK200.out; obtain ⟨hfz23_0, hfz23_1, hfz23_2, hfz23_3⟩ := f4 BK200.out; obtain ⟨hcz24_0, hcz24_1, hcz24_2, hcz24_3⟩ := c4 BK187.out; obtain ⟨hfz24_0, hfz24_1, hfz24_2, hfz24_3⟩ := f4 BK187.out))
 refine bodyPost_ret (results_ct rfl _ _ gb187 24 #[.int .i64 t194, .int .i64 t195, .int .i64 t196, .int .i64 t197] (0, 0) _ rfl (by refine pl ?_; refine blk_put (cs := #[.int .i64 t194, .int .i64 t195, .int .i64 t196, .int .i64 0]) ?_ 3 _ rfl; refine pl ?_; refine blk_put (cs := #[.int .i64 t194, .int .i64 t195, .int .i64 0, .int .i64 0]) ?_ 2 _ rfl; refine pl ?_; refine blk_put (cs := #[.int .i64 t194, .int .i64 0, .int .i64 0, .int .i64 0]) ?_ 1 _ rfl; refine pl ?_; refine blk_put (cs := #[.int .i64 0, .int .i64 0, .int .i64 0, .int .i64 0]) ?_ 0 _ rfl; refine pl ?_; refine blk_far ?_ NB187_200.out _; refine pl ?_; refine blk_far ?_ NB187_200.out _; refine pl ?_; refine blk_far ?_ NB187_200.out _; refine pl ?_; refine blk_far ?_ NB187_200.out _; refine pl ?_; refine blk_far ?_ NB187_199.out _; refine pl ?_; refine blk_far ?_ NB187_199.out _; refine pl ?_; refine blk_far ?_ NB187_199.out _; refine pl ?_; refine blk_far ?_ NB187_199.out _; refine pl ?_; refine blk_far ?_ NB187_199.out _; refine pl ?_; refine blk_far ?_ NB187_199.out _; refine pl ?_; exact BK187.out) Tryd.underlying24 rfl (by kernel_rfl)) rfl ?_
 exact ⟨by first | rfl | (simp [errW_none, errW_some] <;> rfl) | (simp [*, errW_none, errW_some] <;> rfl), by repeat (first | (with_reducible first | exact HB.out | apply below_alloc | apply pw_below_drewN | apply below_drew1 | refine below_set ?_ GE185.out | refine below_set ?_ GE186.out | refine below_set ?_ GE187.out | refine below_set ?_ GE199.out | refine below_set ?_ GE200.out) | exact HB.out)⟩
end Go.Proofs.YtaojbcplmdjfnaaDoor.Pr

namespace Go.Proofs.YtaojbcplmdjfnaaDoor.Open
open Go.ChangeShapes Go.WideShapes Go.ChangeAt Go.RowKit Go.Deep Go.Proofs.YtaojbcplmdjfnaaDoor.Pr Go.Proofs.YtaojbcplmdjfnaaDoorW.PrintWords
set_option linter.unusedVariables false
set_option linter.unusedSimpArgs false
theorem cInt : Tryd.prog.cellsOf 3 = 1 := by kernel_rfl
theorem cStr : Tryd.prog.cellsOf 9 = 1 := by kernel_rfl
theorem cSizes : Tryd.prog.cellsOf 24 = 4 := by kernel_rfl
theorem cWeld : Tryd.prog.cellsOf 26 = 6 := by kernel_rfl
def I64 (x : Int) : Prop := -9223372036854775808 ≤ x ∧ x ≤ 9223372036854775807
theorem i64_wf {n : Int} (h : (Lit.int .i64 n).wf = true) : I64 n := by
  have := bounds_i64 h
  exact this
section
variable {H : Type} {enc : TypeId × Value → H} {W : World} {base : Nat} {sp : Nat → Bool} {held : Bool}
theorem sizes_open {fuel : Nat} {cs : List Value} {x : DataW H × List MemPlace} (h : DataW.trod enc Tryd.prog W base sp held fuel 24 cs = some x) :
    ∃ a b c d, cs = [.int .i64 a, .int .i64 b, .int .i64 c, .int .i64 d] ∧ I64 a ∧ I64 b ∧ I64 c ∧ I64 d := by
  obtain ⟨y0, y1, y2, y3, n, _, hl, f0, f1, f2, f3⟩ := Go.Joins.trod_struct4 Tryd.underlying24 h
  rw [cSizes] at hl
  match cs, hl with
  | [c0, c1, c2, c3], _ =>
    simp only [cInt, List.drop_zero, List.drop_succ_cons, List.take_succ_cons, List.take_zero] at f0 f1 f2 f3
    obtain ⟨n0, g0, _, w0⟩ := DataW.trod_int Tryd.underlying3 f0
    obtain ⟨n1, g1, _, w1⟩ := DataW.trod_int Tryd.underlying3 f1
    obtain ⟨n2, g2, _, w2⟩ := DataW.trod_int Tryd.underlying3 f2
    obtain ⟨n3, g3, _, w3⟩ := DataW.trod_int Tryd.underlying3 f3
    simp only [List.cons.injEq, and_true] at g0 g1 g2 g3
    subst g0 g1 g2 g3
    exact ⟨n0, n1, n2, n3, rfl, i64_wf w0, i64_wf w1, i64_wf w2, i64_wf w3⟩
theorem weld_open {fuel : Nat} {cs : List Value} {x : DataW H × List MemPlace} (h : DataW.trod enc Tryd.prog W base sp held fuel 26 cs = some x) :
    ∃ (a b c d : Int) (s t : ByteArray), cs = [.int .i64 a, .int .i64 b, .int .i64 c, .int .i64 d, .string s, .string t] ∧ I64 b ∧ I64 c := by
  obtain ⟨y0, y1, y2, n, _, hl, f0, f1, f2⟩ := trod_struct3 Tryd.underlying26 h
  rw [cWeld] at hl
  match cs, hl with
  | [c0, c1, c2, c3, c4, c5], _ =>
    simp only [cSizes, cStr, List.drop_zero, List.drop_succ_cons, List.take_succ_cons, List.take_zero] at f0 f1 f2
    obtain ⟨a, b, c, d, g0, _, hb, hc, _⟩ := sizes_open f0
    obtain ⟨s, g1, _, _⟩ := DataW.trod_string Tryd.underlying9 f1
    obtain ⟨t, g2, _, _⟩ := DataW.trod_string Tryd.underlying9 f2
    simp only [List.cons.injEq, and_true] at g0 g1 g2
    obtain ⟨rfl, rfl, rfl, rfl⟩ := g0
    subst g1 g2
    exact ⟨a, b, c, d, s, t, rfl, hb, hc⟩
theorem welds_arg {v : Value} {d : DataW H} {p : List MemPlace} (h : DataW.Trod enc Tryd.prog W base (fun _ => true) held 27 v d p) :
    ∃ (A : Option Addr) (c : Nat) (l : List S26), v.cells.toList = [.slice A l.length c] ∧ Kd.C k26 W A l.length l ∧ l.length ≤ c ∧ c ≤ maxLen ∧ (∀ x ∈ l, I64 x.f0.f1 ∧ I64 x.f0.f2) ∧ (l = [] ∨ ∃ es ss, d = .slice es ss ∧ es.length = l.length) := by
  obtain ⟨fuel, hf⟩ := h
  rcases open_slice Tryd.underlying27 hf with ⟨e, _⟩ | ⟨a, len, cap, m, n, D, Pl, e, _, hl, hm, hmm, hdx, hx⟩
  · exact ⟨none, 0, [], e, ⟨rfl, by simp, fun h => by simp at h⟩, Nat.le_refl _, Nat.zero_le _, by simp, .inl rfl⟩
  · simp only [if_true] at hmm
    subst hmm
    have each : ∀ i, i < len → ∃ x : S26, W.cells? base (a.add (i * 6)) 6 = some [.int .i64 x.f0.f0, .int .i64 x.f0.f1, .int .i64 x.f0.f2, .int .i64 x.f0.f3, .string x.f1, .string x.f2] ∧ I64 x.f0.f1 ∧ I64 x.f0.f2 := by
      intro i hi
      obtain ⟨cs', h1, h2⟩ := hx i (by omega)
      obtain ⟨a, b, c, d, s, t, e, hb, hc⟩ := weld_open h2
      rw [cWeld] at h1
      exact ⟨⟨⟨a, b, c, d⟩, s, t⟩, by rw [h1, e], hb, hc⟩
    haveI : Inhabited S26 := ⟨z26⟩
    obtain ⟨x, hx'⟩ := choose_lt (α := S26) each
    refine ⟨some a, m, (List.range len).map x, by rw [e]; simp, ⟨rfl, by simp [maxLen] at hm ⊢; omega, fun _ => ⟨a, rfl, fun j p hj => ?_⟩⟩, by simpa using hl, hm, ?_, .inr ⟨_, _, (Prod.mk.inj hdx).1, by simp⟩⟩
    · obtain ⟨hj1, hj2⟩ := List.getElem?_eq_some_iff.1 hj
      simp at hj1 hj2
      subst hj2
      refine ⟨_, rfl, k26_mk W (x j), fun i u hu => ?_⟩
      obtain ⟨_, _, hcell⟩ := World.cells?_some (hx' j hj1).1
      have hi : i < 6 := by
        have := (List.getElem?_eq_some_iff.1 hu).1
        simpa using this
      have hk : k26.sz = 6 := rfl
      rw [hk, ← Addr.add_add, hcell i hi]
      exact hu
    · intro y hy
      obtain ⟨i, hi, rfl⟩ := List.mem_map.1 hy
      exact (hx' i (List.mem_range.1 hi)).2
theorem welds_size {l : List S26} {d : DataW H} {ts : List TypeId} {ds : List (DataW H)} {j : Nat} (hsz : (DataW.weightsEach Tryd.prog ts ds).all (· ≤ reachBytes) = true) (ht : ts[j]? = some 27) (hd : ds[j]? = some d)
    (h : l = [] ∨ ∃ es ss, d = .slice es ss ∧ es.length = l.length) : l.length * 64 ≤ 140737488351232 := by
  rcases h with rfl | ⟨es, ss, rfl, he⟩
  · simp
  · have z := sized_slice hsz ht hd Tryd.underlying27
    have hb : Tryd.prog.bytesOf 26 = 64 := by kernel_rfl
    rw [hb] at z
    have : reachBytes = 140737488351232 := rfl
    omega
end
end Go.Proofs.YtaojbcplmdjfnaaDoor.Open

namespace Go.Proofs.YtaojbcplmdjfnaaDoor.Math
open Go.RowKit
set_option linter.unusedVariables false
set_option linter.unusedSimpArgs false
def Byt (l : List Int) : Prop := ∀ x ∈ l, 0 ≤ x ∧ x ≤ 255
def cls (b : Int) : Int := if b < 128 then 1 else if b < 192 then 2 else if b < 194 then 6 else if b < 224 then 3 else if b < 240 then 4 else if b < 245 then 5 else 6
def need (b : Int) : Int := if b < 128 then 1 else if b < 194 then 0 else if b < 224 then 2 else if b < 240 then 3 else if b < 245 then 4 else 0
def sec (a b : Int) : Bool :=
  if a = 224 then decide (160 ≤ b ∧ b ≤ 191) else if a = 237 then decide (128 ≤ b ∧ b ≤ 159) else if a = 240 then decide (144 ≤ b ∧ b ≤ 191)
  else if a = 244 then decide (128 ≤ b ∧ b ≤ 143) else if need a > 1 then decide (128 ≤ b ∧ b ≤ 191) else false
def tl (b : Int) : Bool := decide (128 ≤ b ∧ b ≤ 191)
def whole : List Int → Bool
  | [x0] => decide (need x0 = 1)
  | [x0, x1] => decide (need x0 = 2) && sec x0 x1
  | [x0, x1, x2] => decide (need x0 = 3) && (sec x0 x1 && tl x2)
  | [x0, x1, x2, x3] => decide (need x0 = 4) && (sec x0 x1 && (tl x2 && tl x3))
  | _ => false
def num : List Int → Int
  | [x0] => x0
  | [x0, x1] => (x0 % 32) * 64 + x1 % 64
  | [x0, x1, x2] => ((x0 % 16) * 64 + x1 % 64) * 64 + x2 % 64
  | [x0, x1, x2, x3] => (((x0 % 8) * 64 + x1 % 64) * 64 + x2 % 64) * 64 + x3 % 64
  | _ => -1
def val (l : List Int) : Int := if whole l = true then num l else -1
def isR (r : Int) : Bool := decide (0 ≤ r ∧ r < 55296 ∨ 57343 < r ∧ r ≤ 1114111)
def enc0 (n : Int) : List Int :=
  if n < 128 then [n] else if n < 2048 then [192 + n / 64, 128 + n % 64] else if n < 65536 then [224 + n / 4096, 128 + n / 64 % 64, 128 + n % 64]
  else [240 + n / 262144, 128 + n / 4096 % 64, 128 + n / 64 % 64, 128 + n % 64]
def enc (r : Int) : List Int := if isR r = true then enc0 r else enc0 65533
theorem need_le (b : Int) : 0 ≤ need b ∧ need b ≤ 4 := by unfold need; (repeat' split) <;> omega
theorem cls_two (b : Int) (h : 0 ≤ b) (h' : b ≤ 255) : cls b = 2 ↔ 128 ≤ b ∧ b ≤ 191 := by unfold cls; (repeat' split) <;> omega
theorem sec_tail {a b : Int} (h : sec a b = true) : 128 ≤ b ∧ b ≤ 191 := by
  unfold sec at h; (repeat' split at h) <;> simp at h <;> omega
theorem wrap64_in' {n : Int} (h : -9223372036854775808 ≤ n) (h' : n ≤ 9223372036854775807) : wrap64 n = n := IntWalk.wrap64_in n ⟨h, h'⟩
theorem wrap32_in' {n : Int} (h : -2147483648 ≤ n) (h' : n ≤ 2147483647) : wrap32 n = n := by unfold wrap32; omega
theorem need_1 {x : Int} (h : x < 128) : need x = 1 := by unfold need; rw [if_pos h]
theorem need_2 {x : Int} (h : 194 ≤ x) (h' : x < 224) : need x = 2 := by unfold need; rw [if_neg (by omega), if_neg (by omega), if_pos h']
theorem need_3 {x : Int} (h : 224 ≤ x) (h' : x < 240) : need x = 3 := by unfold need; rw [if_neg (by omega), if_neg (by omega), if_neg (by omega), if_pos h']
theorem need_4 {x : Int} (h : 240 ≤ x) (h' : x < 245) : need x = 4 := by unfold need; rw [if_neg (by omega), if_neg (by omega), if_neg (by omega), if_neg (by omega), if_pos h']
theorem sec_iff (a b : Int) : sec a b = true ↔ (need a > 1 ∧ 128 ≤ b ∧ b ≤ 191 ∧ (a = 224 → 160 ≤ b) ∧ (a = 237 → b ≤ 159) ∧ (a = 240 → 144 ≤ b) ∧ (a = 244 → b ≤ 143)) := by
  unfold sec
  by_cases h1 : a = 224
  · subst h1; simp [need]; omega
  by_cases h2 : a = 237
  · subst h2; simp [need]; omega
  by_cases h3 : a = 240
  · subst h3; simp [need]; omega
  by_cases h4 : a = 244
  · subst h4; simp [need]; omega
  by_cases h5 : need a > 1 <;> simp [h1, h2, h3, h4, h5]
theorem tl_iff (b : Int) : tl b = true ↔ 128 ≤ b ∧ b ≤ 191 := by unfold tl; simp
end Go.Proofs.YtaojbcplmdjfnaaDoor.Math

namespace Go.Proofs.YtaojbcplmdjfnaaDoor.Math
set_option linter.unusedVariables false
set_option linter.unusedSimpArgs false
def lgT (x y z w : Int) : Nat :=
  if 0 ≤ x ∧ x ≤ 127 then 1
  else if (194 ≤ x ∧ x ≤ 223) ∧ (128 ≤ y ∧ y ≤ 191) then 2
  else if (128 ≤ z ∧ z ≤ 191) ∧ (x = 224 ∧ (160 ≤ y ∧ y ≤ 191) ∨ (225 ≤ x ∧ x ≤ 236) ∧ (128 ≤ y ∧ y ≤ 191) ∨ x = 237 ∧ (128 ≤ y ∧ y ≤ 159) ∨ (238 ≤ x ∧ x ≤ 239) ∧ (128 ≤ y ∧ y ≤ 191)) then 3
  else if ((128 ≤ z ∧ z ≤ 191) ∧ (128 ≤ w ∧ w ≤ 191)) ∧ (x = 240 ∧ (144 ≤ y ∧ y ≤ 191) ∨ (241 ≤ x ∧ x ≤ 243) ∧ (128 ≤ y ∧ y ≤ 191) ∨ x = 244 ∧ (128 ≤ y ∧ y ≤ 143)) then 4
  else 0
def lg : List Int → Nat
  | [] => 0
  | x :: t => lgT x (t.getD 0 (-1)) (t.getD 1 (-1)) (t.getD 2 (-1))
theorem lgT_cases (x y z w : Int) : lgT x y z w = 0 ∨ (lgT x y z w = 1 ∧ 0 ≤ x ∧ x ≤ 127) ∨ (lgT x y z w = 2 ∧ 194 ≤ x ∧ x ≤ 223 ∧ 128 ≤ y ∧ y ≤ 191) ∨ (lgT x y z w = 3 ∧ 224 ≤ x ∧ x ≤ 239 ∧ 128 ≤ y ∧ y ≤ 191 ∧ 128 ≤ z ∧ z ≤ 191) ∨
    (lgT x y z w = 4 ∧ 240 ≤ x ∧ x ≤ 244 ∧ 128 ≤ y ∧ y ≤ 191 ∧ 128 ≤ z ∧ z ≤ 191 ∧ 128 ≤ w ∧ w ≤ 191) := by
  unfold lgT; (repeat' split) <;> omega
theorem lgT_w {x y z w : Int} (w' : Int) (h : lgT x y z w = 3) : lgT x y z w' = 3 := by
  unfold lgT at *; (repeat' split at h) <;> (repeat' split) <;> omega
theorem lg_le (l : List Int) : lg l ≤ 4 := by
  cases l with
  | nil => simp [lg]
  | cons x t => have := lgT_cases x (t.getD 0 (-1)) (t.getD 1 (-1)) (t.getD 2 (-1)); show lgT _ _ _ _ ≤ 4; omega
theorem lgT_tail {x : Int} (y z w : Int) (h : 128 ≤ x ∧ x ≤ 191) : lgT x y z w = 0 := by have := lgT_cases x y z w; omega
theorem lg_tail {x : Int} (t : List Int) (h : 128 ≤ x ∧ x ≤ 191) : lg (x :: t) = 0 := lgT_tail _ _ _ h
theorem getD_m1 (t : List Int) (k : Nat) (h : t.length ≤ k) : t.getD k (-1) = -1 := by simp [List.getD, List.getElem?_eq_none h]
theorem lg_len (l : List Int) : lg l ≤ l.length := by
  cases l with
  | nil => simp [lg]
  | cons x t =>
    have h := lgT_cases x (t.getD 0 (-1)) (t.getD 1 (-1)) (t.getD 2 (-1))
    have h0 := getD_m1 t 0
    have h1 := getD_m1 t 1
    have h2 := getD_m1 t 2
    show lgT _ _ _ _ ≤ t.length + 1
    omega
theorem lg_tails (l : List Int) (i : Nat) (h1 : 1 ≤ i) (h2 : i < lg l) : 128 ≤ l.getD i (-1) ∧ l.getD i (-1) ≤ 191 := by
  cases l with
  | nil => simp [lg] at h2
  | cons x t =>
    have h := lgT_cases x (t.getD 0 (-1)) (t.getD 1 (-1)) (t.getD 2 (-1))
    have h2' : i < lgT x (t.getD 0 (-1)) (t.getD 1 (-1)) (t.getD 2 (-1)) := h2
    have e : i = 1 ∨ i = 2 ∨ i = 3 := by omega
    rcases e with rfl | rfl | rfl
    · rw [List.getD_cons_succ]; omega
    · rw [List.getD_cons_succ]; omega
    · rw [List.getD_cons_succ]; omega
theorem getD_app (t m : List Int) (k : Nat) (h : k < t.length) : (t ++ m).getD k (-1) = t.getD k (-1) := by simp [List.getD, List.getElem?_append_left h]
theorem lg_append (l m : List Int) (h : 1 ≤ lg l) : lg (l ++ m) = lg l := by
  cases l with
  | nil => simp [lg] at h
  | cons x t =>
    have hl := lg_len (x :: t)
    have g0 := getD_app t m 0
    have g1 := getD_app t m 1
    have g2 := getD_app t m 2
    simp only [lg, List.cons_append, List.length_cons] at *
    generalize t.getD 0 (-1) = y at *
    generalize t.getD 1 (-1) = z at *
    generalize t.getD 2 (-1) = w at *
    generalize (t ++ m).getD 0 (-1) = y' at *
    generalize (t ++ m).getD 1 (-1) = z' at *
    generalize (t ++ m).getD 2 (-1) = w' at *
    have hc := lgT_cases x y z w
    rcases hc with h0 | ⟨e, hx⟩ | ⟨e, hx⟩ | ⟨e, hx⟩ | ⟨e, hx⟩
    · omega
    · rw [e]; unfold lgT; rw [if_pos (by omega)]
    · rw [e] at hl; rw [g0 (by omega), e]; unfold lgT; rw [if_neg (by omega), if_pos (by omega)]
    · rw [e] at hl; rw [g0 (by omega), g1 (by omega), e]; exact lgT_w _ e
    · rw [e] at hl; rw [g0 (by omega), g1 (by omega), g2 (by omega)]
theorem lg_of_append (l m : List Int) (h : 1 ≤ lg (l ++ m)) (h2 : lg (l ++ m) ≤ l.length) : lg l = lg (l ++ m) := by
  cases l with
  | nil => simp only [List.length_nil] at h2; omega
  | cons x t =>
    have g0 := getD_app t m 0
    have g1 := getD_app t m 1
    have g2 := getD_app t m 2
    simp only [lg, List.cons_append, List.length_cons] at *
    generalize t.getD 0 (-1) = y at *
    generalize t.getD 1 (-1) = z at *
    generalize t.getD 2 (-1) = w at *
    generalize (t ++ m).getD 0 (-1) = y' at *
    generalize (t ++ m).getD 1 (-1) = z' at *
    generalize (t ++ m).getD 2 (-1) = w' at *
    have hc := lgT_cases x y' z' w'
    rcases hc with h0 | ⟨e, hx⟩ | ⟨e, hx⟩ | ⟨e, hx⟩ | ⟨e, hx⟩
    · omega
    · rw [e]; unfold lgT; rw [if_pos (by omega)]
    · rw [e] at h2; rw [g0 (by omega)] at hx; rw [e]; unfold lgT; rw [if_neg (by omega), if_pos (by omega)]
    · rw [e] at h2; rw [e]; rw [g0 (by omega), g1 (by omega)] at e; exact lgT_w _ e
    · rw [e] at h2; rw [g0 (by omega), g1 (by omega), g2 (by omega)]
def rho (n : Nat) : Int := if n ≤ 1 then 1 else 2 - n
def rn : List Int → Int
  | [] => 0
  | x :: t => rho (lg (x :: t)) + rn t
def fr : List Int → Int
  | [] => 0
  | x :: t => (if lg (x :: t) = 4 then 1 else 0) + fr t
def en : Int → List Int → Int
  | _, [] => 0
  | p, x :: t => (if x = 13 ∨ (x = 10 ∧ p ≠ 13) then 1 else 0) + en x t
def wd (l : List Int) : Nat := if lg l = 0 then 1 else lg l
def ru (l : List Int) : Int := if lg l = 0 then 65533 else num (l.take (lg l))
theorem wd_pos (l : List Int) : 1 ≤ wd l := by unfold wd; split <;> omega
theorem wd_le (x : Int) (t : List Int) : wd (x :: t) ≤ (x :: t).length := by
  have := lg_len (x :: t)
  unfold wd; split
  · simp
  · exact this
theorem rn_tails (t : List Int) (n : Nat) (h : ∀ i, i < n → 128 ≤ t.getD i (-1) ∧ t.getD i (-1) ≤ 191) : rn t = n + rn (t.drop n) ∧ fr t = fr (t.drop n) ∧ ∀ p, en p t = en (if n = 0 then p else 0) (t.drop n) := by
  induction n generalizing t with
  | zero => exact ⟨by simp, by simp, fun p => by simp⟩
  | succ n ih =>
    cases t with
    | nil => have := h 0 (by omega); simp [List.getD] at this
    | cons x t =>
      have hx := h 0 (by omega)
      simp [List.getD] at hx
      obtain ⟨h1, h2, h3⟩ := ih t (fun i hi => by have := h (i + 1) (by omega); rwa [List.getD_cons_succ] at this)
      have e0 := lg_tail t hx
      refine ⟨?_, ?_, fun p => ?_⟩
      · simp only [rn, e0, rho, List.drop_succ_cons]; rw [h1]; simp; omega
      · simp only [fr, e0, List.drop_succ_cons]; rw [h2]; simp
      · simp only [en, List.drop_succ_cons, if_neg (Nat.succ_ne_zero n)]
        rw [if_neg (by omega), h3 x]
        split
        · rename_i h0; subst h0
          rw [List.drop_zero]
          cases t with
          | nil => rfl
          | cons y t =>
            simp only [en]
            have : x ≠ 13 := by omega
            simp [this]
        · simp
theorem rn_step (x : Int) (t : List Int) : rn (x :: t) = 1 + rn ((x :: t).drop (wd (x :: t))) := by
  have hw : wd (x :: t) = (wd (x :: t) - 1) + 1 := by have := wd_pos (x :: t); omega
  have ht := rn_tails t (wd (x :: t) - 1) (fun i hi => by
    have hl : wd (x :: t) = lg (x :: t) := by unfold wd at hi ⊢; split <;> simp_all
    have := lg_tails (x :: t) (i + 1) (by omega) (by omega)
    rwa [List.getD_cons_succ] at this)
  rw [hw, List.drop_succ_cons]
  simp only [rn]
  rw [ht.1]
  generalize rn (List.drop (wd (x :: t) - 1) t) = R
  have := lg_le (x :: t)
  unfold wd rho
  split <;> split <;> omega
theorem fr_step (x : Int) (t : List Int) : fr (x :: t) = (if lg (x :: t) = 4 then 1 else 0) + fr ((x :: t).drop (wd (x :: t))) := by
  have hw : wd (x :: t) = (wd (x :: t) - 1) + 1 := by have := wd_pos (x :: t); omega
  have ht := rn_tails t (wd (x :: t) - 1) (fun i hi => by
    have hl : wd (x :: t) = lg (x :: t) := by unfold wd at hi ⊢; split <;> simp_all
    have := lg_tails (x :: t) (i + 1) (by omega) (by omega)
    rwa [List.getD_cons_succ] at this)
  rw [hw, List.drop_succ_cons]
  simp only [fr]
  rw [ht.2.1]
theorem ru_facts (x : Int) (t : List Int) (hx : 0 ≤ x) : (ru (x :: t) = 13 ↔ x = 13) ∧ (ru (x :: t) = 10 ↔ x = 10) ∧ (ru (x :: t) > 65535 ↔ lg (x :: t) = 4) ∧ 0 ≤ ru (x :: t) ∧ ru (x :: t) ≤ 1114111 := by
  have hl := lg_len (x :: t)
  have hg : lg (x :: t) = lgT x (t.getD 0 (-1)) (t.getD 1 (-1)) (t.getD 2 (-1)) := rfl
  unfold ru
  rcases lgT_cases x (t.getD 0 (-1)) (t.getD 1 (-1)) (t.getD 2 (-1)) with e | ⟨e, h⟩ | ⟨e, h⟩ | ⟨e, h⟩ | ⟨e, h⟩
  · rw [hg, e, if_pos rfl]
    have : ¬ (0 ≤ x ∧ x ≤ 127) := fun h => by unfold lgT at e; rw [if_pos h] at e; omega
    omega
  · rw [hg, e, if_neg (by omega)]
    simp only [List.take_succ_cons, List.take_zero, num]
    exact ⟨trivial, trivial, ⟨fun h' => by omega, fun h' => by omega⟩, by omega, by omega⟩
  · rw [hg, e] at hl
    rw [hg, e, if_neg (by omega)]
    match t, hl, h, e with
    | y :: t', _, h, e =>
      simp only [List.take_succ_cons, List.take_zero, num, List.getD_cons_zero] at *
      omega
  · rw [hg, e] at hl
    rw [hg, e, if_neg (by omega)]
    match t, hl, h, e with
    | y :: z :: t', _, h, e =>
      simp only [List.take_succ_cons, List.take_zero, num, List.getD_cons_zero, List.getD_cons_succ] at *
      unfold lgT at e
      rw [if_neg (by omega), if_neg (by omega)] at e
      split at e
      · omega
      · split at e <;> omega
    | [_], hl, _, _ => simp at hl
    | [], hl, _, _ => simp at hl
  · rw [hg, e] at hl
    rw [hg, e, if_neg (by omega)]
    match t, hl, h, e with
    | y :: z :: w :: t', _, h, e =>
      simp only [List.take_succ_cons, List.take_zero, num, List.getD_cons_zero, List.getD_cons_succ] at *
      have hx : x % 8 = x - 240 := by omega
      have hy : y % 64 = y - 128 := by omega
      have hz : z % 64 = z - 128 := by omega
      have hw : w % 64 = w - 128 := by omega
      rw [hx, hy, hz, hw]
      unfold lgT at e
      rw [if_neg (by omega), if_neg (by omega), if_neg (by omega)] at e
      split at e
      · exact ⟨⟨fun h' => by omega, fun h' => by omega⟩, ⟨fun h' => by omega, fun h' => by omega⟩, ⟨fun h' => trivial, fun h' => by omega⟩, by omega, by omega⟩
      · omega
    | [_, _], hl, _, _ => simp at hl
    | [_], hl, _, _ => simp at hl
    | [], hl, _, _ => simp at hl
theorem en_step (p : Int) (x : Int) (t : List Int) (hx : 0 ≤ x) : en p (x :: t) = (if ru (x :: t) = 13 ∨ (ru (x :: t) = 10 ∧ p ≠ 13) then 1 else 0) + en (ru (x :: t)) ((x :: t).drop (wd (x :: t))) := by
  obtain ⟨r13, r10, _, _⟩ := ru_facts x t hx
  have hw : wd (x :: t) = (wd (x :: t) - 1) + 1 := by have := wd_pos (x :: t); omega
  have ht := (rn_tails t (wd (x :: t) - 1) (fun i hi => by
    have hl : wd (x :: t) = lg (x :: t) := by unfold wd at hi ⊢; split <;> simp_all
    have := lg_tails (x :: t) (i + 1) (by omega) (by omega)
    rwa [List.getD_cons_succ] at this)).2.2 x
  rw [hw, List.drop_succ_cons]
  simp only [en]
  rw [ht]
  have hif : (if x = 13 ∨ x = 10 ∧ p ≠ 13 then (1 : Int) else 0) = if ru (x :: t) = 13 ∨ ru (x :: t) = 10 ∧ p ≠ 13 then 1 else 0 := by
    simp only [r13, r10]
  rw [hif]
  congr 1
  -- what follows asks of the byte ahead only whether it is 13
  have key : ∀ (u v : Int) (l : List Int), (u = 13 ↔ v = 13) → en u l = en v l := by
    intro u v l h
    cases l with
    | nil => rfl
    | cons y l =>
      simp only [en]
      simp only [ne_eq, h]
  apply key
  split
  · exact r13.symm
  · rename_i hne
    -- the step has two bytes or more: neither is 13
    have h0 : lg (x :: t) ≠ 0 := fun h0 => hne (by unfold wd; rw [if_pos h0])
    have hl : wd (x :: t) = lg (x :: t) := by unfold wd; rw [if_neg h0]
    have := lgT_cases x (t.getD 0 (-1)) (t.getD 1 (-1)) (t.getD 2 (-1))
    have hg : lg (x :: t) = lgT x (t.getD 0 (-1)) (t.getD 1 (-1)) (t.getD 2 (-1)) := rfl
    rw [r13]
    omega
end Go.Proofs.YtaojbcplmdjfnaaDoor.Math

namespace Go.Proofs.YtaojbcplmdjfnaaDoor.Math
open Go.RowKit
set_option linter.unusedVariables false
set_option linter.unusedSimpArgs false
def dcT (X Y Z W : Nat) (n : Nat) : Nat × Nat :=
  if n = 0 then (65533, 1) else if n = 1 then (X, 1) else if n = 2 then (X % 32 * 64 + Y % 64, 2) else if n = 3 then (X % 16 * 4096 + Y % 64 * 64 + Z % 64, 3) else (X % 8 * 262144 + Y % 64 * 4096 + Z % 64 * 64 + W % 64, 4)
set_option maxHeartbeats 4000000 in
theorem dec_core (n X Y Z W : Nat) (y z w : Int) (hX : X < 256) (hY : Y < 256) (hZ : Z < 256) (hW : W < 256) (h1 : 1 < n → y = Y) (h1' : n ≤ 1 → y = -1) (h2 : 2 < n → z = Z) (h2' : n ≤ 2 → z = -1) (h3 : 3 < n → w = W) (h3' : n ≤ 3 → w = -1) :
    Lib.decodeN n X Y Z W = dcT X Y Z W (lgT X y z w) := by
  unfold lgT
  split
  · show _ = (X, 1)
    unfold Lib.decodeN
    rw [if_pos (by omega)]
  split
  · show _ = (X % 32 * 64 + Y % 64, 2)
    unfold Lib.decodeN
    rw [if_neg (by omega), if_pos (by omega), if_pos (by omega)]
  split
  · show _ = (X % 16 * 4096 + Y % 64 * 64 + Z % 64, 3)
    have g1 : 1 < n := by omega
    have g2 : 2 < n := by omega
    have e1 := h1 g1
    have e2 := h2 g2
    unfold Lib.decodeN
    rw [if_neg (by omega), if_neg (by omega), if_pos (by omega), if_pos (by omega)]
  split
  · show _ = (X % 8 * 262144 + Y % 64 * 4096 + Z % 64 * 64 + W % 64, 4)
    have g1 : 1 < n := by omega
    have g2 : 2 < n := by omega
    have g3 : 3 < n := by omega
    have e1 := h1 g1
    have e2 := h2 g2
    have e3 := h3 g3
    have m1 : Y % 64 = Y - 128 := by omega
    have m2 : Z % 64 = Z - 128 := by omega
    have m3 : W % 64 = W - 128 := by omega
    have m0 : X % 8 = X - 240 := by omega
    unfold Lib.decodeN
    rw [if_neg (by omega), if_neg (by omega), if_neg (by omega), if_pos (by omega), m0, m1, m2, m3, if_pos (by omega)]
  · show _ = (65533, 1)
    rename_i c1 c2 c3 c4
    unfold Lib.decodeN
    rw [if_neg (by omega)]
    split
    · rename_i d
      have g1 : 1 < n := d.2.1
      have e1 := h1 g1
      rw [if_neg (by omega)]
    split
    · rename_i _ d
      have g1 : 1 < n := d.2.1.1
      have g2 : 2 < n := d.2.2.1
      have e1 := h1 g1
      have e2 := h2 g2
      rw [if_neg (by omega)]
    split
    · rename_i _ _ d
      have g1 : 1 < n := d.2.1.1
      have g2 : 2 < n := d.2.2.1.1
      have g3 : 3 < n := d.2.2.2.1
      have e1 := h1 g1
      have e2 := h2 g2
      have e3 := h3 g3
      have m1 : Y % 64 = Y - 128 := by omega
      have m2 : Z % 64 = Z - 128 := by omega
      have m3 : W % 64 = W - 128 := by omega
      have m0 : X % 8 = X - 240 := by omega
      rw [m0, m1, m2, m3, if_neg (by omega)]
    · rfl
theorem Byt.drop {l : List Int} (h : Byt l) (n : Nat) : Byt (l.drop n) := fun x hx => h x (List.mem_of_mem_drop hx)
theorem Byt.take {l : List Int} (h : Byt l) (n : Nat) : Byt (l.take n) := fun x hx => h x (List.mem_of_mem_take hx)
theorem Byt.append {l m : List Int} (h : Byt l) (h' : Byt m) : Byt (l ++ m) := fun x hx => (List.mem_append.1 hx).elim (h x) (h' x)
theorem Byt.getD {l : List Int} (h : Byt l) (k : Nat) (hk : k < l.length) (d : Int) : 0 ≤ l.getD k d ∧ l.getD k d ≤ 255 := by
  have e : l.getD k d = l[k] := by simp [List.getD, List.getElem?_eq_getElem hk]
  rw [e]; exact h _ (List.getElem_mem hk)
theorem str_getD (l : List Int) (hb : Byt l) (k : Nat) : (((strOfNums l).data.toList.getD k 0).toNat : Int) = l.getD k 0 := by
  rw [strOfNums_data]
  by_cases hk : k < l.length
  · have := hb.getD k hk 0
    have e : l.getD k 0 = l[k] := by simp [List.getD, List.getElem?_eq_getElem hk]
    simp only [List.getD_eq_getElem?_getD, List.getElem?_map, List.getElem?_eq_getElem hk, Option.map_some, Option.getD_some] at *
    rw [UInt8.toNat_ofNat']
    omega
  · simp [List.getD, List.getElem?_eq_none (Nat.le_of_not_lt hk)]
theorem getD_swap {l : List Int} {k : Nat} (hk : k < l.length) (c d : Int) : l.getD k c = l.getD k d := by simp [List.getD, List.getElem?_eq_getElem hk]
theorem getD_drop' (l : List Int) (p k : Nat) (d : Int) : (l.drop p).getD k d = l.getD (p + k) d := by simp [List.getD, List.getElem?_drop]
theorem decode_eq (l : List Int) (hb : Byt l) (p : Nat) (hp : p < l.length) : ((Utf8.decode (strOfNums l) p).1 : Int) = ru (l.drop p) ∧ (Utf8.decode (strOfNums l) p).2 = wd (l.drop p) := by
  rw [Lib.decode_N]
  have hlen : (strOfNums l).data.toList.length = l.length := by rw [strOfNums_data, List.length_map]
  rw [hlen]
  obtain ⟨x, t, hxt⟩ : ∃ x t, l.drop p = x :: t := by
    cases h : l.drop p with
    | nil => have := congrArg List.length h; simp at this; omega
    | cons x t => exact ⟨x, t, rfl⟩
  have hbt : Byt (x :: t) := hxt ▸ hb.drop p
  have htl : t.length + 1 = l.length - p := by have := congrArg List.length hxt; simp at this; omega
  have gk : ∀ k, l.getD (p + k) 0 = (x :: t).getD k 0 := fun k => by rw [← hxt, getD_drop']
  have s0 := str_getD l hb p
  have s1 := str_getD l hb (p + 1)
  have s2 := str_getD l hb (p + 2)
  have s3 := str_getD l hb (p + 3)
  have g0 := gk 0
  rw [Nat.add_zero] at g0
  rw [g0] at s0
  rw [gk 1] at s1
  rw [gk 2] at s2
  rw [gk 3] at s3
  simp only [List.getD_cons_zero, List.getD_cons_succ] at s0 s1 s2 s3
  have b0 := UInt8.toNat_lt ((strOfNums l).data.toList.getD p 0)
  have b1 := UInt8.toNat_lt ((strOfNums l).data.toList.getD (p + 1) 0)
  have b2 := UInt8.toNat_lt ((strOfNums l).data.toList.getD (p + 2) 0)
  have b3 := UInt8.toNat_lt ((strOfNums l).data.toList.getD (p + 3) 0)
  generalize ((strOfNums l).data.toList.getD p 0).toNat = X at *
  generalize ((strOfNums l).data.toList.getD (p + 1) 0).toNat = Y at *
  generalize ((strOfNums l).data.toList.getD (p + 2) 0).toNat = Z at *
  generalize ((strOfNums l).data.toList.getD (p + 3) 0).toNat = W at *
  rw [dec_core (l.length - p) X Y Z W (t.getD 0 (-1)) (t.getD 1 (-1)) (t.getD 2 (-1)) b0 b1 b2 b3
    (fun h => by rw [s1]; exact getD_swap (by omega) _ _) (fun h => getD_m1 t 0 (by omega))
    (fun h => by rw [s2]; exact getD_swap (by omega) _ _) (fun h => getD_m1 t 1 (by omega))
    (fun h => by rw [s3]; exact getD_swap (by omega) _ _) (fun h => getD_m1 t 2 (by omega)), hxt]
  have hg : lg (x :: t) = lgT X (t.getD 0 (-1)) (t.getD 1 (-1)) (t.getD 2 (-1)) := by rw [s0]; rfl
  have hll := lg_len (x :: t)
  rw [← hg]
  have h4 := lg_le (x :: t)
  unfold ru wd dcT
  have hc : lg (x :: t) = 0 ∨ lg (x :: t) = 1 ∨ lg (x :: t) = 2 ∨ lg (x :: t) = 3 ∨ lg (x :: t) = 4 := by omega
  rcases hc with e | e | e | e | e
  · simp [e]
  · simp only [e, List.take_succ_cons, List.take_zero, num]; simp [s0]
  · match t, hll, s1 with
    | y :: t', _, s1 =>
      simp only [List.getD_cons_zero] at s1
      simp only [e, List.take_succ_cons, List.take_zero, num]; simp; omega
    | [], hll, _ => rw [e] at hll; simp at hll
  · match t, hll, s1, s2 with
    | y :: z :: t', _, s1, s2 =>
      simp only [List.getD_cons_zero, List.getD_cons_succ] at s1 s2
      simp only [e, List.take_succ_cons, List.take_zero, num]; simp; omega
    | [_], hll, _, _ => rw [e] at hll; simp at hll
    | [], hll, _, _ => rw [e] at hll; simp at hll
  · match t, hll, s1, s2, s3 with
    | y :: z :: w :: t', _, s1, s2, s3 =>
      simp only [List.getD_cons_zero, List.getD_cons_succ] at s1 s2 s3
      simp only [e, List.take_succ_cons, List.take_zero, num]; simp; omega
    | [_, _], hll, _, _, _ => rw [e] at hll; simp at hll
    | [_], hll, _, _, _ => rw [e] at hll; simp at hll
    | [], hll, _, _, _ => rw [e] at hll; simp at hll
def insB (l : List Int) (p : Nat) : Bool := decide (1 ≤ p ∧ 1 < lg (l.drop (p - 1))) || (decide (2 ≤ p ∧ 2 < lg (l.drop (p - 2))) || decide (3 ≤ p ∧ 3 < lg (l.drop (p - 3))))
theorem insB_true (l : List Int) (p : Nat) : insB l p = true ↔ ∃ k, 1 ≤ k ∧ k ≤ 3 ∧ k ≤ p ∧ k < lg (l.drop (p - k)) := by
  unfold insB
  simp only [Bool.or_eq_true, decide_eq_true_eq]
  constructor
  · rintro (h | h | h)
    · exact ⟨1, by omega, by omega, h.1, h.2⟩
    · exact ⟨2, by omega, by omega, h.1, h.2⟩
    · exact ⟨3, by omega, by omega, h.1, h.2⟩
  · rintro ⟨k, h1, h3, hp, hl⟩
    have : k = 1 ∨ k = 2 ∨ k = 3 := by omega
    rcases this with rfl | rfl | rfl
    · exact .inl ⟨hp, hl⟩
    · exact .inr (.inl ⟨hp, hl⟩)
    · exact .inr (.inr ⟨hp, hl⟩)
theorem insB_false (l : List Int) (p : Nat) : insB l p = false ↔ ∀ k, 1 ≤ k → k ≤ 3 → k ≤ p → lg (l.drop (p - k)) ≤ k := by
  rw [← Bool.not_eq_true, insB_true]
  constructor
  · intro h k h1 h2 h3
    apply Nat.le_of_not_lt
    intro h4
    exact h ⟨k, h1, h2, h3, h4⟩
  · rintro h ⟨k, h1, h2, h3, h4⟩
    have := h k h1 h2 h3
    omega
theorem insB_zero (l : List Int) : insB l 0 = false := (insB_false l 0).2 (fun k h1 _ h3 => by omega)
theorem lg_drop_tail (l : List Int) (p j : Nat) (h1 : 1 ≤ j) (h2 : j < lg (l.drop p)) : lg (l.drop (p + j)) = 0 := by
  have := lg_tails _ j h1 h2
  rw [getD_drop'] at this
  have hlt : p + j < l.length := by have := lg_len (l.drop p); simp at this; omega
  obtain ⟨x, t, hxt⟩ : ∃ x t, l.drop (p + j) = x :: t := by
    cases h : l.drop (p + j) with
    | nil => have := congrArg List.length h; simp at this; omega
    | cons x t => exact ⟨x, t, rfl⟩
  have e : x = l.getD (p + j) (-1) := by
    have := getD_drop' l (p + j) 0 (-1)
    rw [hxt] at this
    simpa using this
  rw [hxt]
  exact lg_tail t (by omega)
theorem ins_step (l : List Int) (p : Nat) (he : insB l p = false) : (∀ i, 1 ≤ i → i < wd (l.drop p) → insB l (p + i) = true) ∧ insB l (p + wd (l.drop p)) = false := by
  have hle := lg_le (l.drop p)
  constructor
  · intro i h1 h2
    have hl : i < lg (l.drop p) := by unfold wd at h2; split at h2 <;> omega
    exact (insB_true l _).2 ⟨i, h1, by omega, by omega, by rwa [Nat.add_sub_cancel]⟩
  · rw [insB_false] at he ⊢
    intro k h1 h3 hk
    by_cases hq : k < wd (l.drop p)
    · have hl : wd (l.drop p) = lg (l.drop p) := by
        by_cases h0 : lg (l.drop p) = 0
        · unfold wd at hq; rw [if_pos h0] at hq; omega
        · unfold wd; rw [if_neg h0]
      have := lg_drop_tail l p (wd (l.drop p) - k) (by omega) (by omega)
      rw [show p + wd (l.drop p) - k = p + (wd (l.drop p) - k) by omega, this]
      omega
    · have hw := wd_pos (l.drop p)
      by_cases hq2 : k = wd (l.drop p)
      · rw [show p + wd (l.drop p) - k = p by omega]
        unfold wd at hq2; split at hq2 <;> omega
      · have := he (k - wd (l.drop p)) (by omega) (by omega) (by omega)
        rw [show p + wd (l.drop p) - k = p - (k - wd (l.drop p)) by omega]
        omega
theorem ins_end (l : List Int) : insB l l.length = false := by
  rw [insB_false]
  intro k _ _ hk
  have := lg_len (l.drop (l.length - k))
  simp at this
  omega
def edF (l : List Int) (p n : Nat) : List Nat := (List.range' p n).filter (fun q => !insB l q)
theorem edF_step (l : List Int) (p : Nat) (hp : p < l.length) (he : insB l p = false) : edF l p (l.length - p) = p :: edF l (p + wd (l.drop p)) (l.length - (p + wd (l.drop p))) := by
  obtain ⟨h1, h2⟩ := ins_step l p he
  have hw := wd_pos (l.drop p)
  have hwl : p + wd (l.drop p) ≤ l.length := by
    have := lg_len (l.drop p); simp at this
    unfold wd; split <;> omega
  unfold edF
  have e : l.length - p = 1 + ((wd (l.drop p) - 1) + (l.length - (p + wd (l.drop p)))) := by omega
  rw [e, Nat.add_comm 1, List.range'_succ, List.filter_cons, he]
  simp only [Bool.not_false, if_true]
  rw [← List.range'_append_1, List.filter_append]
  have e0 : List.filter (fun q => !insB l q) (List.range' (p + 1) (wd (l.drop p) - 1)) = [] := by
    rw [List.filter_eq_nil_iff]
    intro a ha
    rw [List.mem_range'_1] at ha
    have := h1 (a - p) (by omega) (by omega)
    rw [show p + (a - p) = a by omega] at this
    simp [this]
  rw [e0, List.nil_append, show p + 1 + (wd (l.drop p) - 1) = p + wd (l.drop p) by omega]
end Go.Proofs.YtaojbcplmdjfnaaDoor.Math

namespace Go.Proofs.YtaojbcplmdjfnaaDoor.Math
set_option linter.unusedVariables false
set_option linter.unusedSimpArgs false
theorem rn_bounds' (l : List Int) : 0 ≤ fr l ∧ 0 ≤ rn l ∧ rn l ≤ l.length ∧ fr l ≤ rn l ∧ rn l + 3 * fr l ≤ l.length := by
  generalize hn : l.length = n
  induction n using Nat.strongRecOn generalizing l with
  | ind n ih =>
    cases l with
    | nil => simp [rn, fr]
    | cons x t =>
      have hw := wd_pos (x :: t)
      have hwl := wd_le x t
      have hd : ((x :: t).drop (wd (x :: t))).length = n - wd (x :: t) := by rw [List.length_drop, hn]
      have h := ih (n - wd (x :: t)) (by simp at hn; omega) _ hd
      rw [rn_step, fr_step]
      have hw4 : lg (x :: t) = 4 → wd (x :: t) = 4 := fun h => by unfold wd; rw [h]; rfl
      split <;> omega
theorem en_bounds' (l : List Int) : ∀ p, 0 ≤ en p l ∧ en p l ≤ l.length := by
  induction l with
  | nil => intro p; simp [en]
  | cons x t ih =>
    intro p
    have := ih x
    simp only [en, List.length_cons]
    split <;> omega
def seamR : List Int → List Int → Int × Int
  | [], _ => (0, 0)
  | x :: t, b => if t.length + 1 < lg (x :: t ++ b) then (((lg (x :: t ++ b) : Nat) : Int) - 1, ((lg (x :: t ++ b) : Nat) : Int) - (if lg (x :: t ++ b) = 4 then 2 else 1)) else seamR t b
def seamE (a b : List Int) : Int := if a.getD (a.length - 1) (-1) = 13 ∧ b.getD 0 (-1) = 10 then 1 else 0
theorem seamR_range (a b : List Int) : 0 ≤ (seamR a b).1 ∧ (seamR a b).1 ≤ 3 ∧ 0 ≤ (seamR a b).2 ∧ (seamR a b).2 ≤ 2 := by
  induction a with
  | nil => simp [seamR]
  | cons x t ih =>
    have h4 := lg_le (x :: t ++ b)
    rw [seamR]
    generalize lg (x :: t ++ b) = L at *
    split
    · refine ⟨?_, ?_, ?_, ?_⟩ <;> dsimp only <;> (try split) <;> omega
    · exact ih
theorem seamE_range (a b : List Int) : 0 ≤ seamE a b ∧ seamE a b ≤ 1 := by unfold seamE; split <;> omega
def vldB (n r u e : Int) (H T : List Int) : Bool :=
  if n < 0 ∨ n > 268435456 ∨ (H.length : Int) ≠ min 3 n ∨ (T.length : Int) ≠ min 3 n then false
  else if n ≤ 6 then decide (H.drop (n.toNat - T.length) = T.take (H.length + T.length - n.toNat)) && decide (r = rn (H ++ T.drop (H.length + T.length - n.toNat)) ∧ u = rn (H ++ T.drop (H.length + T.length - n.toNat)) + fr (H ++ T.drop (H.length + T.length - n.toNat)) ∧ e = en 0 (H ++ T.drop (H.length + T.length - n.toNat)))
  else decide (0 ≤ r ∧ r ≤ n ∧ r ≤ u ∧ u ≤ 2 * r ∧ r - (u - r) ≤ n - 4 * (u - r) ∧ n - 4 * (u - r) ≤ 3 * (r - (u - r)) ∧ 0 ≤ e ∧ e ≤ r)
end Go.Proofs.YtaojbcplmdjfnaaDoor.Math

namespace Go.Proofs.YtaojbcplmdjfnaaDoor.Pr
open Go.RowKit Go.Proofs.YtaojbcplmdjfnaaDoorW.PrintWords Go.Proofs.YtaojbcplmdjfnaaDoorW.PrintLast Go.Proofs.YtaojbcplmdjfnaaDoorW.PrintMore
attribute [local go_sem] max2_int min2_int max_two min_two max_three min_three max_four min_four   -- for this text's walks alone
set_option linter.unusedVariables false
set_option linter.unusedSimpArgs false
def galleyref02_at.f (l0 : List Int) (a1 : Int) : Option (Int) := if a1 < 0 then (some (-1)) else (if a1 ≥ (l0.length : Int) then (some (-1)) else (if 0 ≤ a1 then (if a1 < (l0.length : Int) then (some (wrap64 (rd l0 a1))) else (none)) else (none)))
set_option maxHeartbeats 8000000 in
set_option maxRecDepth 100000 in
theorem galleyref02_at.calls (A0 : Option Addr) (c0 : Nat) (l0 : List Int) (a1 : Int) (r : Int) (w : World) (hr0 : Kd.C (Kd.int .u8) w A0 l0.length l0) (hc0 : l0.length ≤ c0) (h : galleyref02_at.f l0 a1 = some r) :
  Calls Tryd.prog 47 #[.slice A0 l0.length c0, .int .i64 a1] w fun e w' => e = .returned (.int .i64 r) ∧ Drawn0 w w' := by
 have HR0 := Aside0.mk hr0; have HC0 := Aside0.mk hc0; clear hr0 hc0
 have H : (if a1 < 0 then (some (-1)) else (if a1 ≥ (l0.length : Int) then (some (-1)) else (if 0 ≤ a1 then (if a1 < (l0.length : Int) then (some (wrap64 (rd l0 a1))) else (none)) else (none)))) = some r := h
 clear h
 by_cases c3 : a1 < 0
 ·rw [if_pos c3] at H
  have c3b0 : decide (a1 < 0) = true := decide_eq_true c3
  clear c3
  obtain rfl := Option.some.inj H
  go_enter Tryd.func47, Tryd.ntmps47
  go_wp2
  go_ret
  exact ⟨by first | rfl | (simp; done) | (simp [*]; done), by repeat (first | exact Drawn0.refl _ | apply Drawn0.step)⟩
 ·rw [if_neg c3] at H
  have c3b0 : decide (a1 < 0) = false := decide_eq_false c3
  clear c3
  by_cases c4 : a1 ≥ (l0.length : Int)
  ·rw [if_pos c4] at H
   have c4b0 : decide ((l0.length : Int) ≤ a1) = true := decide_eq_true c4
   clear c4
   obtain rfl := Option.some.inj H
   go_enter Tryd.func47, Tryd.ntmps47
   go_wp2
   go_ret
   exact ⟨by first | rfl | (simp; done) | (simp [*]; done), by repeat (first | exact Drawn0.refl _ | apply Drawn0.step)⟩
  ·rw [if_neg c4] at H
   have c4b0 : decide ((l0.length : Int) ≤ a1) = false := decide_eq_false c4
   clear c4
   by_cases c5 : 0 ≤ a1
   ·rw [if_pos c5] at H
    have c5b0 : decide (0 ≤ a1) = true := decide_eq_true c5
    clear c5
    by_cases c6 : a1 < (l0.length : Int)
    ·rw [if_pos c6] at H
     have c6b0 : decide (a1 < (l0.length : Int)) = true := decide_eq_true c6
     clear c6
     obtain rfl := Option.some.inj H
     have p210 : 0 ≤ (a1 : Int) := of_decide_eq_true (by first | (with_reducible assumption) | assumption)
     have q210 : a1 < (l0.length : Int) := of_decide_eq_true (by first | (with_reducible assumption) | assumption)
     obtain ⟨ad210, e210, hx210_0⟩ := Kd.at_int HR0.out a1 p210 q210
     cases e210
     replace p210 := eq_true p210
     replace q210 := eq_true q210
     go_enter Tryd.func47, Tryd.ntmps47
     go_wp2
     go_ret
     exact ⟨by first | rfl | (simp; done) | (simp [*]; done), by repeat (first | exact Drawn0.refl _ | apply Drawn0.step)⟩
    ·rw [if_neg c6] at H
     exact absurd H (by simp)
   ·rw [if_neg c5] at H
    exact absurd H (by simp)
def galleyref02_in.f (a0 : Int) (a1 : Int) (a2 : Int) : Option (Bool) := if a0 ≥ a1 then (some (decide (a0 ≤ a2))) else (some false)
set_option maxHeartbeats 8000000 in
set_option maxRecDepth 100000 in
theorem galleyref02_in.calls (a0 : Int) (a1 : Int) (a2 : Int) (r : Bool) (w : World) (h : galleyref02_in.f a0 a1 a2 = some r) :
  Calls Tryd.prog 48 #[.int .i64 a0, .int .i64 a1, .int .i64 a2] w fun e w' => e = .returned (.bool r) ∧ Drawn0 w w' := by
 have H : (if a0 ≥ a1 then (some (decide (a0 ≤ a2))) else (some false)) = some r := h
 clear h
 by_cases c4 : a0 ≥ a1
 ·rw [if_pos c4] at H
  have c4b0 : decide (a1 ≤ a0) = true := decide_eq_true c4
  clear c4
  obtain rfl := Option.some.inj H
  go_enter Tryd.func48, Tryd.ntmps48
  go_wp2
  go_ret
  exact ⟨by first | rfl | (simp; done) | (simp [*]; done), by repeat (first | exact Drawn0.refl _ | apply Drawn0.step)⟩
 ·rw [if_neg c4] at H
  have c4b0 : decide (a1 ≤ a0) = false := decide_eq_false c4
  clear c4
  obtain rfl := Option.some.inj H
  go_enter Tryd.func48, Tryd.ntmps48
  go_wp2
  go_ret
  exact ⟨by first | rfl | (simp; done) | (simp [*]; done), by repeat (first | exact Drawn0.refl _ | apply Drawn0.step)⟩
end Go.Proofs.YtaojbcplmdjfnaaDoor.Pr
