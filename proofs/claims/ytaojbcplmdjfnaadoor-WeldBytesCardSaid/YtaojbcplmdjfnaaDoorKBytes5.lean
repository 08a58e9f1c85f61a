/- Part 5 of the lemmas on which the card weldBytes_card stands (its sentence and conditions stand in the last text). Conditions: as each lemma says. -/
import Derived.Test.YtaojbcplmdjfnaaDoorKBytes4
import Derived.OpenShut
import Derived.Laws.BytesArg
import Derived.Laws.Strings
import Derived.Lib.TrimUEq
namespace Go.Proofs.YtaojbcplmdjfnaaDoor.Pr
open Go.RowKit Go.Proofs.YtaojbcplmdjfnaaDoorW.PrintWords Go.Proofs.YtaojbcplmdjfnaaDoorW.PrintLast Go.Proofs.YtaojbcplmdjfnaaDoorW.PrintMore
attribute [local go_sem] max2_int min2_int max_two min_two max_three min_three max_four min_four   -- for this text's walks alone
set_option linter.unusedVariables false
set_option linter.unusedSimpArgs false
attribute [local go_sem high] eqA26
mutual
def galleylaw05_WeldBytes.l0 : Nat → List Int → Int → Int → Int → Int → Int → Int → ByteArray → ByteArray → Option (Bool)
 | 0, _, _, _, _, _, _, _, _, _ => none
 | k + 1, x0, x18, x19, x461000, x461001, x461002, x461003, x461004, x461005 => if x19 < x18 then (if 0 ≤ x19 then (if x19 ≤ (wrap64 (x19 + 1)) then (if (wrap64 (x19 + 1)) ≤ (x0.length : Int) then ((weld_Of.f ((x0.take ((wrap64 (x19 + 1)) : Int).toNat).drop (x19 : Int).toNat)).bind fun bt462 => ((weld_Join.f k x461000 x461001 x461002 x461003 x461004 x461005 bt462.1 bt462.2.1 bt462.2.2.1 bt462.2.2.2.1 bt462.2.2.2.2.1 bt462.2.2.2.2.2).bind fun bt468 => (if bt468.2.2.2.2.2.2 = 0 then (if x19 < 100 then (if 0 ≤ (wrap64 (x19 + 1)) then ((weld_Of.f (x0.take ((wrap64 (x19 + 1)) : Int).toNat)).bind fun bt477 => (galleylaw05_WeldBytes.j1 k x0 x18 x19 ((!(bt468.1 == bt477.1) || (!(bt468.2.1 == bt477.2.1) || (!(bt468.2.2.1 == bt477.2.2.1) || (!(bt468.2.2.2.1 == bt477.2.2.2.1))))) || (!(bt468.2.2.2.2.1.toList == bt477.2.2.2.2.1.toList) || (!(bt468.2.2.2.2.2.1.toList == bt477.2.2.2.2.2.toList)))) bt468.1 bt468.2.1 bt468.2.2.1 bt468.2.2.2.1 bt468.2.2.2.2.1 bt468.2.2.2.2.2.1)) else (none)) else (galleylaw05_WeldBytes.j1 k x0 x18 x19 false bt468.1 bt468.2.1 bt468.2.2.1 bt468.2.2.2.1 bt468.2.2.2.2.1 bt468.2.2.2.2.2.1)) else (galleylaw05_WeldBytes.j1 k x0 x18 x19 true bt468.1 bt468.2.1 bt468.2.2.1 bt468.2.2.2.1 bt468.2.2.2.2.1 bt468.2.2.2.2.2.1)))) else (none)) else (none)) else (none)) else ((weld_Of.f ([] : List Int)).bind fun bt483 => ((weld_Join.f k x461000 x461001 x461002 x461003 x461004 x461005 bt483.1 bt483.2.1 bt483.2.2.1 bt483.2.2.2.1 bt483.2.2.2.2.1 bt483.2.2.2.2.2).bind fun bt489 => ((weld_Of.f ([] : List Int)).bind fun bt497 => ((weld_Join.f k bt497.1 bt497.2.1 bt497.2.2.1 bt497.2.2.2.1 bt497.2.2.2.2.1 bt497.2.2.2.2.2 x461000 x461001 x461002 x461003 x461004 x461005).bind fun bt503 => (if bt489.2.2.2.2.2.2 = 0 then (if bt503.2.2.2.2.2.2 = 0 then (if ((bt489.1 == x461000 && (bt489.2.1 == x461001 && (bt489.2.2.1 == x461002 && (bt489.2.2.2.1 == x461003)))) && (bt489.2.2.2.2.1.toList == x461004.toList && (bt489.2.2.2.2.2.1.toList == x461005.toList))) = true then (if ((bt503.1 == x461000 && (bt503.2.1 == x461001 && (bt503.2.2.1 == x461002 && (bt503.2.2.2.1 == x461003)))) && (bt503.2.2.2.2.1.toList == x461004.toList && (bt503.2.2.2.2.2.1.toList == x461005.toList))) = true then ((weld_Of.f x0).bind fun bt511 => (some ((x461000 == bt511.1 && (x461001 == bt511.2.1 && (x461002 == bt511.2.2.1 && (x461003 == bt511.2.2.2.1)))) && (x461004.toList == bt511.2.2.2.2.1.toList && (x461005.toList == bt511.2.2.2.2.2.toList))))) else (none)) else (none)) else (none)) else (none))))))
def galleylaw05_WeldBytes.j1 : Nat → List Int → Int → Int → Bool → Int → Int → Int → Int → ByteArray → ByteArray → Option (Bool)
 | 0, _, _, _, _, _, _, _, _, _, _ => none
 | k + 1, x0, x18, x19, x47, x476000, x476001, x476002, x476003, x476004, x476005 => if x47 = true then (none) else (galleylaw05_WeldBytes.l0 k x0 x18 (wrap64 (x19 + 1)) x476000 x476001 x476002 x476003 x476004 x476005)
end
def galleylaw05_WeldBytes.f (k : Nat) (l0 : List Int) : Option (Bool) := (galleylaw05_fixed.f).bind fun t453 => (if t453 = true then (if (l0.length : Int) > 268435456 then (some true) else ((weld_Of.f ([] : List Int)).bind fun bt454 => (galleylaw05_WeldBytes.l0 k l0 (l0.length : Int) 0 bt454.1 bt454.2.1 bt454.2.2.1 bt454.2.2.2.1 bt454.2.2.2.2.1 bt454.2.2.2.2.2))) else (none))
def galleylaw05_WeldBytes.T9 : Bool × List (List Nat × List Nat) := (true, [([], []), ([], []), ([], []), ([], []), ([3], [3]), ([1, 2, 4], [1, 2, 4]), ([5], [5]), ([0, 6, 6], [0, 6]), ([7], [7]), ([8], [8]), ([8], [8]), ([], []), ([11, 9, 7, 0, 1, 2, 3, 4, 5, 6, 7, 8, 9, 11], [9, 11]), ([10, 12, 0, 1, 2, 3, 4, 5, 6, 7, 8, 9, 10, 11, 12], [10])])
def galleylaw05_WeldBytes.B9 : List Nat := [0, 0, 0, 0, 8, 30, 62, 127, 255, 511, 511, 0, 3071, 8191]
theorem galleylaw05_WeldBytes.tab9 : rtab .any (opsOf Tryd.f7 9) = galleylaw05_WeldBytes.T9 := by kernel_rfl
theorem galleylaw05_WeldBytes.bits9 : waitsOk galleylaw05_WeldBytes.T9.2 galleylaw05_WeldBytes.B9 = true := by kernel_rfl
def galleylaw05_WeldBytes.T10 : Bool × List (List Nat × List Nat) := (true, [([], []), ([0], [0]), ([1], [1]), ([2], [2]), ([3, 2], [2, 3]), ([4, 2, 2], [2, 4]), ([5], [5]), ([5], [5]), ([5], [5]), ([8, 5], [5, 8]), ([7, 9, 5], [5, 7, 9]), ([10, 5, 5], [5, 10]), ([6, 11, 5], [5, 6, 11]), ([5, 12, 2], [2, 5, 12]), ([2, 13], [2, 13])])
def galleylaw05_WeldBytes.B10 : List Nat := [0, 1, 3, 7, 15, 31, 63, 63, 63, 319, 959, 1983, 4095, 8191, 16383]
theorem galleylaw05_WeldBytes.tab10 : rtab .any (opsOf Tryd.f7 10) = galleylaw05_WeldBytes.T10 := by kernel_rfl
theorem galleylaw05_WeldBytes.bits10 : waitsOk galleylaw05_WeldBytes.T10.2 galleylaw05_WeldBytes.B10 = true := by kernel_rfl
def galleylaw05_WeldBytes.T14 : Bool × List (List Nat × List Nat) := (true, [([], []), ([], []), ([0, 1, 1], [0, 1]), ([2], [2]), ([3], [3]), ([3], [3]), ([], []), ([6, 4, 2, 0, 1, 2, 3, 4, 6], [4, 6]), ([5, 7, 0, 1, 2, 3, 4, 5, 6, 7], [5])])
def galleylaw05_WeldBytes.B14 : List Nat := [0, 0, 3, 7, 15, 15, 0, 95, 255]
theorem galleylaw05_WeldBytes.tab14 : rtab .any (opsOf Tryd.f7 14) = galleylaw05_WeldBytes.T14 := by kernel_rfl
theorem galleylaw05_WeldBytes.bits14 : waitsOk galleylaw05_WeldBytes.T14.2 galleylaw05_WeldBytes.B14 = true := by kernel_rfl
def galleylaw05_WeldBytes.T15 : Bool × List (List Nat × List Nat) := (true, [([], []), ([], []), ([0, 1, 0], [0, 1]), ([2], [2]), ([3], [3]), ([3], [3]), ([], []), ([6, 4, 2, 0, 1, 2, 3, 4, 6], [4, 6]), ([5, 7, 0, 1, 2, 3, 4, 5, 6, 7], [5])])
def galleylaw05_WeldBytes.B15 : List Nat := [0, 0, 3, 7, 15, 15, 0, 95, 255]
theorem galleylaw05_WeldBytes.tab15 : rtab .any (opsOf Tryd.f7 15) = galleylaw05_WeldBytes.T15 := by kernel_rfl
theorem galleylaw05_WeldBytes.bits15 : waitsOk galleylaw05_WeldBytes.T15.2 galleylaw05_WeldBytes.B15 = true := by kernel_rfl
def galleylaw05_WeldBytes.T16 : Bool × List (List Nat × List Nat) := (true, [([], []), ([0], [0]), ([1], [1]), ([2], [2]), ([3, 2], [2, 3]), ([2, 4], [2, 4]), ([5, 2], [5]), ([6], [6]), ([6], [6]), ([7, 8, 6], [6, 7, 8]), ([6, 9], [6, 9]), ([10, 6], [10]), ([11], [11]), ([11], [11]), ([12, 13, 11], [11, 12, 13]), ([11, 14], [11, 14]), ([15, 11], [15]), ([16], [16]), ([16], [16]), ([18, 16, 16], [16, 18]), ([17, 19, 16], [16, 17, 19]), ([16, 20], [16, 20]), ([21, 19, 0, 1, 2, 3, 4, 5, 6, 7, 8, 9, 10, 11, 12, 13, 14, 15, 16, 17, 18, 19, 20, 21], [21])])
def galleylaw05_WeldBytes.B16 : List Nat := [0, 1, 3, 7, 15, 31, 63, 127, 127, 511, 1023, 2047, 4095, 4095, 16383, 32767, 65535, 131071, 131071, 393215, 1048575, 2097151, 4194303]
theorem galleylaw05_WeldBytes.tab16 : rtab .any (opsOf Tryd.f7 16) = galleylaw05_WeldBytes.T16 := by kernel_rfl
theorem galleylaw05_WeldBytes.bits16 : waitsOk galleylaw05_WeldBytes.T16.2 galleylaw05_WeldBytes.B16 = true := by kernel_rfl
set_option maxHeartbeats 8000000 in
set_option maxRecDepth 100000 in
theorem galleylaw05_WeldBytes.calls (k : Nat) (A0 : Option Addr) (c0 : Nat) (l0 : List Int) (r : Bool) (w : World) (hG : Glob.Globs w) (hr0 : Kd.C (Kd.int .u8) w A0 l0.length l0) (hc0 : l0.length ≤ c0) (h : galleylaw05_WeldBytes.f k l0 = some r) :
  Calls Tryd.prog 7 #[.slice A0 l0.length c0] w fun e w' => e = .returned (.bool r) ∧ Below w.heap.size w w' := by
 have hu26 := Tryd.underlying26
 have HG := Aside0.mk hG
 clear hG
 have HR0 := Aside0.mk hr0
 have HC0 := Aside0.mk hc0
 clear hr0 hc0
 have HB := Aside0.mk (Below.refl w.heap.size w)
 have H : ((galleylaw05_fixed.f).bind fun t453 => (if t453 = true then (if (l0.length : Int) > 268435456 then (some true) else ((weld_Of.f ([] : List Int)).bind fun bt454 => (galleylaw05_WeldBytes.l0 k l0 (l0.length : Int) 0 bt454.1 bt454.2.1 bt454.2.2.1 bt454.2.2.2.1 bt454.2.2.2.2.1 bt454.2.2.2.2.2))) else (none))) = some r := h
 clear h
 replace H := Option.bind_eq_some_iff.mp H
 obtain ⟨t453, A20, H⟩ := H
 replace H : (if t453 = true then (if (l0.length : Int) > 268435456 then (some true) else ((weld_Of.f ([] : List Int)).bind fun bt454 => (galleylaw05_WeldBytes.l0 k l0 (l0.length : Int) 0 bt454.1 bt454.2.1 bt454.2.2.1 bt454.2.2.2.1 bt454.2.2.2.2.1 bt454.2.2.2.2.2))) else (none)) = some r := H
 have A2 := Aside0.mk A20
 clear A20
 by_cases c3 : t453 = true
 ·subst c3
  have H1 : (if (l0.length : Int) > 268435456 then (some true) else ((weld_Of.f ([] : List Int)).bind fun bt454 => (galleylaw05_WeldBytes.l0 k l0 (l0.length : Int) 0 bt454.1 bt454.2.1 bt454.2.2.1 bt454.2.2.2.1 bt454.2.2.2.2.1 bt454.2.2.2.2.2))) = some r := by rw [if_pos rfl] at H; exact H
  clear H
  have H := H1
  clear H1
  by_cases c4 : (l0.length : Int) > 268435456
  ·rw [if_pos c4] at H
   have c4b0 : decide (268435456 < (l0.length : Int)) = true := decide_eq_true c4
   have c4b1 : decide (268435456 < l0.length) = true := decide_eq_true (by omega)
   clear c4
   obtain rfl := Option.some.inj H
   go_enter Tryd.func7, Tryd.ntmps7
   go_wp2_with (first | ((with_reducible refine gate_callee (f := 10) rfl ?_); refine goesL_ (some 11) rfl rfl Tryd.func10 (by kernel_rfl) rfl #[] rfl (by (try simp only [List.map_toArray, List.map_cons, List.map_nil]); first | done | rfl | (simp only [List.length_drop, List.length_take]; rfl)) ?_; (with_reducible refine (galleylaw05_fixed.calls  true _ ?side1 A2.out).mono ?_); (case side1 => first | (with_reducible exact HG.out) | exact Glob.Globs_below HG.out (by repeat (first | (with_reducible first | exact HB.out | apply below_alloc | apply pw_below_drewN | apply below_drew1) | exact HB.out))); rintro e w5 ⟨rfl, hb⟩; refine ⟨_, rfl, ?_⟩; have n0_ := Aside0.mk (below_step (by repeat (first | (with_reducible first | exact HB.out | apply below_alloc | apply pw_below_drewN | apply below_drew1) | exact HB.out)) hb); clear HB; have HB := n0_; clear n0_; (try clear hb); (try clear hb2); (try clear hk); (try clear hi)))
   go_ret
   exact ⟨by first | rfl | (simp [errW_none, errW_some] <;> rfl) | (simp [*, errW_none, errW_some] <;> rfl), by repeat (first | (with_reducible first | exact HB.out | apply below_alloc | apply pw_below_drewN | apply below_drew1) | exact HB.out)⟩
  ·rw [if_neg c4] at H
   have c4b0 : decide (268435456 < (l0.length : Int)) = false := decide_eq_false c4
   have c4b1 : decide (268435456 < l0.length) = false := decide_eq_false (by omega)
   clear c4
   replace H := Option.bind_eq_some_iff.mp H
   obtain ⟨⟨t454, t455, t456, t457, t458, t459⟩, A60, H⟩ := H
   replace H : (galleylaw05_WeldBytes.l0 k l0 (l0.length : Int) 0 t454 t455 t456 t457 t458 t459) = some r := H
   have A6 := Aside0.mk A60
   clear A60
   have H' := Aside0.mk H
   clear H
   go_enter Tryd.func7, Tryd.ntmps7
   go_wp2_with (first | ((with_reducible refine gate_callee (f := 10) rfl ?_); refine goesL_ (some 11) rfl rfl Tryd.func10 (by kernel_rfl) rfl #[] rfl (by (try simp only [List.map_toArray, List.map_cons, List.map_nil]); first | done | rfl | (simp only [List.length_drop, List.length_take]; rfl)) ?_; (with_reducible refine (galleylaw05_fixed.calls  true _ ?side1 A2.out).mono ?_); (case side1 => first | (with_reducible exact HG.out) | exact Glob.Globs_below HG.out (by repeat (first | (with_reducible first | exact HB.out | apply below_alloc | apply pw_below_drewN | apply below_drew1) | exact HB.out))); rintro e w7 ⟨rfl, hb⟩; refine ⟨_, rfl, ?_⟩; have n0_ := Aside0.mk (below_step (by repeat (first | (with_reducible first | exact HB.out | apply below_alloc | apply pw_below_drewN | apply below_drew1) | exact HB.out)) hb); clear HB; have HB := n0_; clear n0_; (try clear hb); (try clear hb2); (try clear hk); (try clear hi)) | ((with_reducible refine gate_callee (f := 12) rfl ?_); refine goesL_ (some 16) rfl rfl Tryd.func12 (by kernel_rfl) rfl #[.slice none 0 0] rfl (by (try simp only [List.map_toArray, List.map_cons, List.map_nil]); first | done | rfl | (simp only [List.length_drop, List.length_take]; rfl)) ?_; (refine (weld_Of.calls _ _ ([] : List Int) t454 t455 t456 t457 t458 t459 _ ?side1 ?side2 ?side3 A6.out).mono ?_); (case side1 => first | (with_reducible exact HG.out) | exact Glob.Globs_below HG.out (by repeat (first | (with_reducible first | exact HB.out | apply below_alloc | apply pw_below_drewN | apply below_drew1) | exact HB.out))); (case side2 => exact Kd.C_nil _ _); (case side3 => exact Nat.le_refl _); rintro e w8 ⟨rfl, hb⟩; refine ⟨_, rfl, ?_⟩; have n0_ := Aside0.mk (below_step (by repeat (first | (with_reducible first | exact HB.out | apply below_alloc | apply pw_below_drewN | apply below_drew1) | exact HB.out)) hb); clear HB; have HB := n0_; clear n0_; (try clear hb); (try clear hb2); (try clear hk); (try clear hi)) | ((with_reducible refine gate_dst (N := 3) rfl ?_); refine box_event ?hg (N := 3) ?hd (cs := #[.int .i64 0, .int .i64 0, .int .i64 0, .int .i64 0, .string (⟨#[]⟩ : ByteArray), .string (⟨#[]⟩ : ByteArray)]) (t := 26) ?hr ?_; (case hd => rfl); (case hg => rfl); (case hr => first | (go_simp; done) | (go_simp; rfl)); intro gb460 hg w9 hbox hb; have n0_ := Aside0.mk (below_step (by repeat (first | (with_reducible first | exact HB.out | apply below_alloc | apply pw_below_drewN | apply below_drew1) | exact HB.out)) hb); have n1_ := Aside0.mk (hbox); have n2_ := Aside0.mk ((by rw [hg]; exact (below_size (by repeat (first | (with_reducible first | exact HB.out | apply below_alloc | apply pw_below_drewN | apply below_drew1) | exact HB.out))) : w.heap.size ≤ gb460)); have n3_ := Aside0.mk ((by rw [hg]; exact (below_size (by repeat (first | (with_reducible first | exact HB.out | apply below_alloc | apply pw_below_drewN | apply below_drew1) | exact HB.out))) : w.heap.size ≤ gb460)); clear HB; have HB := n0_; have BK460 := n1_; have GW460 := n2_; have GE460 := n3_; clear n0_ n1_ n2_ n3_; clear hb hbox hg; have hcz10_0 : w9.cell? ⟨gb460, 0, none⟩ = some (.int .i64 0) := (blk_cell BK460.out 0).trans rfl; have hcz10_1 : w9.cell? ⟨gb460, 1, none⟩ = some (.int .i64 0) := (blk_cell BK460.out 1).trans rfl; have hcz10_2 : w9.cell? ⟨gb460, 2, none⟩ = some (.int .i64 0) := (blk_cell BK460.out 2).trans rfl; have hcz10_3 : w9.cell? ⟨gb460, 3, none⟩ = some (.int .i64 0) := (blk_cell BK460.out 3).trans rfl; have hcz10_4 : w9.cell? ⟨gb460, 4, none⟩ = some (.string (⟨#[]⟩ : ByteArray)) := (blk_cell BK460.out 4).trans rfl; have hcz10_5 : w9.cell? ⟨gb460, 5, none⟩ = some (.string (⟨#[]⟩ : ByteArray)) := (blk_cell BK460.out 5).trans rfl; have hfz10_0 := blk_frozen BK460.out 0; have hfz10_1 := blk_frozen BK460.out 1; have hfz10_2 := blk_frozen BK460.out 2; have hfz10_3 := blk_frozen BK460.out 3; have hfz10_4 := blk_frozen BK460.out 4; have hfz10_5 := blk_frozen BK460.out 5))
   go_loopg [19] k (fun kq v19 w' => ∃ (x19_1 : Int) (x461000_1 : Int) (x461001_1 : Int) (x461002_1 : Int) (x461003_1 : Int) (x461004_1 : ByteArray) (x461005_1 : ByteArray), v19 = .int .i64 x19_1 ∧ Aside0 (galleylaw05_WeldBytes.l0 kq l0 (l0.length : Int) x19_1 x461000_1 x461001_1 x461002_1 x461003_1 x461004_1 x461005_1 = some r) ∧ Aside0 (kq ≤ k) ∧ Aside0 (w'.heap[gb460]? = some (.cells #[.int .i64 x461000_1, .int .i64 x461001_1, .int .i64 x461002_1, .int .i64 x461003_1, .string x461004_1, .string x461005_1] 26 (0, 0))) ∧ Aside0 (Below w.heap.size w w'))
   case atStart => exact ⟨(0), (t454), (t455), (t456), (t457), (t458), (t459), (by first | rfl | (simp; done) | (simp [*]; done)), H', ⟨Nat.le_refl _⟩, ⟨by (with_reducible repeat (first | refine blk_drewN ?_ _ | refine blk_drew ?_ | refine blk_alloc ?_ _)); refine blk_put (cs := #[.int .i64 t454, .int .i64 t455, .int .i64 t456, .int .i64 t457, .string t458, .string (⟨#[]⟩ : ByteArray)]) ?_ 5 _ rfl; (with_reducible repeat (first | refine blk_drewN ?_ _ | refine blk_drew ?_ | refine blk_alloc ?_ _)); refine blk_put (cs := #[.int .i64 t454, .int .i64 t455, .int .i64 t456, .int .i64 t457, .string (⟨#[]⟩ : ByteArray), .string (⟨#[]⟩ : ByteArray)]) ?_ 4 _ rfl; (with_reducible repeat (first | refine blk_drewN ?_ _ | refine blk_drew ?_ | refine blk_alloc ?_ _)); refine blk_put (cs := #[.int .i64 t454, .int .i64 t455, .int .i64 t456, .int .i64 0, .string (⟨#[]⟩ : ByteArray), .string (⟨#[]⟩ : ByteArray)]) ?_ 3 _ rfl; (with_reducible repeat (first | refine blk_drewN ?_ _ | refine blk_drew ?_ | refine blk_alloc ?_ _)); refine blk_put (cs := #[.int .i64 t454, .int .i64 t455, .int .i64 0, .int .i64 0, .string (⟨#[]⟩ : ByteArray), .string (⟨#[]⟩ : ByteArray)]) ?_ 2 _ rfl; (with_reducible repeat (first | refine blk_drewN ?_ _ | refine blk_drew ?_ | refine blk_alloc ?_ _)); refine blk_put (cs := #[.int .i64 t454, .int .i64 0, .int .i64 0, .int .i64 0, .string (⟨#[]⟩ : ByteArray), .string (⟨#[]⟩ : ByteArray)]) ?_ 1 _ rfl; (with_reducible repeat (first | refine blk_drewN ?_ _ | refine blk_drew ?_ | refine blk_alloc ?_ _)); refine blk_put (cs := #[.int .i64 0, .int .i64 0, .int .i64 0, .int .i64 0, .string (⟨#[]⟩ : ByteArray), .string (⟨#[]⟩ : ByteArray)]) ?_ 0 _ rfl; (with_reducible repeat (first | refine blk_drewN ?_ _ | refine blk_drew ?_ | refine blk_alloc ?_ _)); exact BK460.out⟩, ⟨by repeat (first | (with_reducible first | exact HB.out | apply below_alloc | apply pw_below_drewN | apply below_drew1 | refine below_set ?_ GE460.out) | exact HB.out)⟩⟩
   case round =>
    clear H'
    try clear c1
    try clear p2
    try clear c3
    try clear c4
    try clear c4b0
    try clear c4b1
    try clear c7
    try clear c10
    try clear hcz10_0
    try clear hcz10_1
    try clear hcz10_2
    try clear hcz10_3
    try clear hcz10_4
    try clear hcz10_5
    try clear hfz10_0
    try clear hfz10_1
    try clear hfz10_2
    try clear hfz10_3
    try clear hfz10_4
    try clear hfz10_5
    obtain ⟨x19_1, x461000_1, x461001_1, x461002_1, x461003_1, x461004_1, x461005_1, rfl, HA, HK1, BK460, HB⟩ := hrel
    cases gk with
    | zero => exact absurd HA.out (by simp [galleylaw05_WeldBytes.l0])
    | succ k1 =>
     have H := HA.out
     clear HA
     simp only [galleylaw05_WeldBytes.l0] at H
     by_cases c11 : x19_1 < (l0.length : Int)
     ·rw [if_pos c11] at H
      have c11b0 : decide (x19_1 < (l0.length : Int)) = true := decide_eq_true c11
      clear c11
      by_cases c12 : 0 ≤ x19_1
      ·rw [if_pos c12] at H
       have c12b0 := eq_true c12
       have c12b1 : decide (0 ≤ x19_1) = true := decide_eq_true c12
       clear c12
       by_cases c13 : x19_1 ≤ (wrap64 (x19_1 + 1))
       ·rw [if_pos c13] at H
        have c13b0 := eq_true c13
        have c13b1 : decide (x19_1 ≤ (wrap64 (x19_1 + 1))) = true := decide_eq_true c13
        by_cases c14 : (wrap64 (x19_1 + 1)) ≤ (l0.length : Int)
        ·rw [if_pos c14] at H
         have c14b0 := eq_true c14
         have c14b1 : decide ((wrap64 (x19_1 + 1)) ≤ (l0.length : Int)) = true := decide_eq_true c14
         replace H := Option.bind_eq_some_iff.mp H
         obtain ⟨⟨t462, t463, t464, t465, t466, t467⟩, A150, H⟩ := H
         replace H : ((weld_Join.f k1 x461000_1 x461001_1 x461002_1 x461003_1 x461004_1 x461005_1 t462 t463 t464 t465 t466 t467).bind fun bt468 => (if bt468.2.2.2.2.2.2 = 0 then (if x19_1 < 100 then (if 0 ≤ (wrap64 (x19_1 + 1)) then ((weld_Of.f (l0.take ((wrap64 (x19_1 + 1)) : Int).toNat)).bind fun bt477 => (galleylaw05_WeldBytes.j1 k1 l0 (l0.length : Int) x19_1 ((!(bt468.1 == bt477.1) || (!(bt468.2.1 == bt477.2.1) || (!(bt468.2.2.1 == bt477.2.2.1) || (!(bt468.2.2.2.1 == bt477.2.2.2.1))))) || (!(bt468.2.2.2.2.1.toList == bt477.2.2.2.2.1.toList) || (!(bt468.2.2.2.2.2.1.toList == bt477.2.2.2.2.2.toList)))) bt468.1 bt468.2.1 bt468.2.2.1 bt468.2.2.2.1 bt468.2.2.2.2.1 bt468.2.2.2.2.2.1)) else (none)) else (galleylaw05_WeldBytes.j1 k1 l0 (l0.length : Int) x19_1 false bt468.1 bt468.2.1 bt468.2.2.1 bt468.2.2.2.1 bt468.2.2.2.2.1 bt468.2.2.2.2.2.1)) else (galleylaw05_WeldBytes.j1 k1 l0 (l0.length : Int) x19_1 true bt468.1 bt468.2.1 bt468.2.2.1 bt468.2.2.2.1 bt468.2.2.2.2.1 bt468.2.2.2.2.2.1))) = some r := H
         have A15 := Aside0.mk A150
         clear A150
         replace H := Option.bind_eq_some_iff.mp H
         obtain ⟨⟨t468, t469, t470, t471, t472, t473, t474⟩, A160, H⟩ := H
         replace H : (if t474 = 0 then (if x19_1 < 100 then (if 0 ≤ (wrap64 (x19_1 + 1)) then ((weld_Of.f (l0.take ((wrap64 (x19_1 + 1)) : Int).toNat)).bind fun bt477 => (galleylaw05_WeldBytes.j1 k1 l0 (l0.length : Int) x19_1 ((!(t468 == bt477.1) || (!(t469 == bt477.2.1) || (!(t470 == bt477.2.2.1) || (!(t471 == bt477.2.2.2.1))))) || (!(t472.toList == bt477.2.2.2.2.1.toList) || (!(t473.toList == bt477.2.2.2.2.2.toList)))) t468 t469 t470 t471 t472 t473)) else (none)) else (galleylaw05_WeldBytes.j1 k1 l0 (l0.length : Int) x19_1 false t468 t469 t470 t471 t472 t473)) else (galleylaw05_WeldBytes.j1 k1 l0 (l0.length : Int) x19_1 true t468 t469 t470 t471 t472 t473)) = some r := H
         have A16 := Aside0.mk A160
         clear A160
         have HC17 := Aside0.mk H
         clear H
         try go_wp2
         have n0_ := Aside0.mk (blk_drew BK460.out)
         have n1_ := Aside0.mk (below_drew1 HB.out)
         clear BK460
         clear HB
         have BK460 := n0_
         have HB := n1_
         clear n0_ n1_
         obtain ⟨i019, hi019, _, hsz19, _⟩ := info_parts info5
         obtain ⟨A19, hcut19, hA19, hC19⟩ := print_mid_of (P := Tryd.prog) (Value.int .u8) 0 29 5 .i64 .i64 Tryd.underlying29 hi019 hsz19 A0 c0 l0 x19_1 (wrap64 (x19_1 + 1)) (of_decide_eq_true (by first | (with_reducible assumption) | assumption)) (by first | omega | exact of_decide_eq_true (by first | (with_reducible assumption) | assumption)) (of_decide_eq_true (by first | (with_reducible assumption) | assumption)) HC0.out
         have HR461 := Aside0.mk (Kd.C_of_reads (h1 := fun _ => rfl) (hA19 _ (Kd.reads_of_C HR0.out)))
         have HC461 := Aside0.mk hC19
         clear hA19 hC19 hi019 hsz19
         refine start_ (n := 14) (S := fun w' => w'.cell? ⟨gb460, 0, none⟩ = some (.int .i64 x461000_1) ∧ w'.cell? ⟨gb460, 1, none⟩ = some (.int .i64 x461001_1) ∧ w'.cell? ⟨gb460, 2, none⟩ = some (.int .i64 x461002_1) ∧ w'.cell? ⟨gb460, 3, none⟩ = some (.int .i64 x461003_1) ∧ w'.cell? ⟨gb460, 4, none⟩ = some (.string x461004_1) ∧ w'.cell? ⟨gb460, 5, none⟩ = some (.string x461005_1)) (ds := []) #[false, false, false, false, false, false, false, false, false, false, false, false, false, false] (by kernel_rfl) rfl rfl ⟨(blk_cell BK460.out 0).trans rfl, (blk_cell BK460.out 1).trans rfl, (blk_cell BK460.out 2).trans rfl, (blk_cell BK460.out 3).trans rfl, (blk_cell BK460.out 4).trans rfl, (blk_cell BK460.out 5).trans rfl⟩ (fun hHeld => ?_); refine with_tabW galleylaw05_WeldBytes.tab9 galleylaw05_WeldBytes.bits9 (fun HT_ HW_ => ?_)
         generalize wr.drew = w18 at BK460 HB HR461 hHeld ⊢
         refine pure_ (i := 1) (N := some 24) (v := ?_) (a' := ?_) #[false, true, false, false, false, false, false, false, false, false, false, false, false, false] rfl rfl (any_of HT_.out (by kernel_rfl)) (fun _ _ _ h => h) (Or.inl ⟨by rfl, ?_⟩) ?_ ?_
         rotate_left
         ·intro w'
          go_simp
          with_reducible rfl
         rotate_left
         ·simp only [Act.put, List.setIfInBounds_toArray, List.set_cons_zero, List.set_cons_succ, i64_w, i32_w]
          rfl
         refine pure_ (i := 2) (N := some 25) (v := ?_) (a' := ?_) #[false, true, true, false, false, false, false, false, false, false, false, false, false, false] rfl rfl (any_of HT_.out (by kernel_rfl)) (fun _ _ _ h => h) (Or.inl ⟨by rfl, ?_⟩) ?_ ?_
         rotate_left
         ·intro w'
          go_simp
          with_reducible rfl
         rotate_left
         ·simp only [Act.put, List.setIfInBounds_toArray, List.set_cons_zero, List.set_cons_succ, i64_w, i32_w]
          rfl
         refine pure_ (i := 3) (N := some 26) (v := ?_) (a' := ?_) #[false, true, true, true, false, false, false, false, false, false, false, false, false, false] rfl rfl (any_of HT_.out (by kernel_rfl)) (fun _ _ _ h => h) (Or.inl ⟨by rfl, ?_⟩) ?_ ?_
         rotate_left
         ·intro w'
          go_simp
          with_reducible rfl
         rotate_left
         ·simp only [Act.put, List.setIfInBounds_toArray, List.set_cons_zero, List.set_cons_succ, i64_w, i32_w]
          rfl
         refine pure_ (i := 4) (N := some 27) (v := ?_) (a' := ?_) #[false, true, true, true, true, false, false, false, false, false, false, false, false, false] rfl rfl (any_of HT_.out (by kernel_rfl)) (fun _ _ _ h => h) (Or.inl ⟨by rfl, ?_⟩) ?_ ?_
         rotate_left
         ·intro w'
          go_simp
          with_reducible rfl
         rotate_left
         ·simp only [Act.put, List.setIfInBounds_toArray, List.set_cons_zero, List.set_cons_succ, i64_w, i32_w]
          rfl
         refine pure_ (i := 5) (N := some 28) (v := ?_) (a' := ?_) #[false, true, true, true, true, true, false, false, false, false, false, false, false, false] rfl rfl (any_of HT_.out (by kernel_rfl)) (fun _ _ _ h => h) (Or.inl ⟨by rfl, ?_⟩) ?_ ?_
         rotate_left
         ·intro w'
          go_simp
          with_reducible rfl
         rotate_left
         ·simp only [Act.put, List.setIfInBounds_toArray, List.set_cons_zero, List.set_cons_succ, i64_w, i32_w]
          rfl
         refine take_ (i := 0) (N := some 23) (v := ?_) (a' := ?_) #[true, true, true, true, true, true, false, false, false, false, false, false, false, false] rfl rfl (take_ofW HT_.out HW_.out (by kernel_rfl)) (fun _ _ _ h => h) (Or.inl ⟨by rfl, ?_⟩) hHeld ?_ ?_
         rotate_left
         ·rintro w' ⟨s0, s1, s2, s3, s4, s5⟩
          go_simp
          with_reducible rfl
         rotate_left
         ·simp only [Act.put, List.setIfInBounds_toArray, List.set_cons_zero, List.set_cons_succ, i64_w, i32_w]
          rfl
         refine join_ (σ := Nat) 2 #[true, true, true, true, true, true, true, true, true, true, true, true, false, false] (fun s_ => [(29, .agg #[.int .i64 t462, .int .i64 t463, .int .i64 t464, .int .i64 t465, .string t466, .string t467]), (30, .tuple #[.agg #[.int .i64 t468, .int .i64 t469, .int .i64 t470, .int .i64 t471, .string t472, .string t473], .int .i64 t474]), (5, .pointer (some ⟨s_, 0, none⟩)), (22, .tuple #[.agg #[.int .i64 t468, .int .i64 t469, .int .i64 t470, .int .i64 t471, .string t472, .string t473], .int .i64 t474]), (31, .agg #[.int .i64 t468, .int .i64 t469, .int .i64 t470, .int .i64 t471, .string t472, .string t473]), (32, .int .i64 t474)]) (fun s_ w' => (w'.cell? ⟨gb460, 0, none⟩ = some (.int .i64 x461000_1) ∧ w'.cell? ⟨gb460, 1, none⟩ = some (.int .i64 x461001_1) ∧ w'.cell? ⟨gb460, 2, none⟩ = some (.int .i64 x461002_1) ∧ w'.cell? ⟨gb460, 3, none⟩ = some (.int .i64 x461003_1) ∧ w'.cell? ⟨gb460, 4, none⟩ = some (.string x461004_1) ∧ w'.cell? ⟨gb460, 5, none⟩ = some (.string x461005_1)) ∧ (w'.heap[gb460]? = some (.cells #[.int .i64 x461000_1, .int .i64 x461001_1, .int .i64 x461002_1, .int .i64 x461003_1, .string x461004_1, .string x461005_1] 26 (0, 0))) ∧ (w'.heap[s_]? = some (.cells #[.int .i64 0, .int .i64 0, .int .i64 0, .int .i64 0, .string (⟨#[]⟩ : ByteArray), .string (⟨#[]⟩ : ByteArray)] 26 (0, 0))) ∧ (w.heap.size ≤ s_) ∧ (w.heap.size ≤ s_) ∧ (gb460 ≠ s_) ∧ (s_ ≠ gb460) ∧ (Below w.heap.size w w')) ?_ ?_
         rotate_left
         ·intro hCont
          refine two_ (i := 6) (j := 11) (Ni := some 29) (Nj := some 5) #[true, true, true, true, true, true, true, false, false, false, false, false, false, false] #[true, true, true, true, true, true, false, false, false, false, false, true, false, false] rfl rfl rfl rfl (two_of HT_.out (by kernel_rfl)) (by decide) (by decide) (fun K hK => ?_) (fun K hK => ?_)
          ·skip
           refine goes_ Tryd.func12 (by kernel_rfl) rfl #[.slice A19 ((l0.take ((wrap64 (x19_1 + 1)) : Int).toNat).drop (x19_1 : Int).toNat).length (c0 - x19_1.toNat)] (by rfl) rfl rfl (by (try simp only [List.map_toArray, List.map_cons, List.map_nil]); first | done | (rw [show ((l0.take ((wrap64 (x19_1 + 1)) : Int).toNat).drop (x19_1 : Int).toNat).length = ((wrap64 (x19_1 + 1)).toNat - x19_1.toNat) from (by rw [List.length_drop, List.length_take]; have h_ : ((wrap64 (x19_1 + 1)) : Int) ≤ (l0.length : Int) := of_decide_eq_true (by first | (with_reducible assumption) | assumption); omega)] <;> rfl) | rfl | (simp only [List.length_drop, List.length_take]; rfl)) ?_
           with_reducible refine (weld_Of.calls _ _ ((l0.take ((wrap64 (x19_1 + 1)) : Int).toNat).drop (x19_1 : Int).toNat) t462 t463 t464 t465 t466 t467 _ ?side1 ?side2 ?side3 A15.out).mono ?_
           (case side1 => first | (with_reducible exact HG.out) | exact Glob.Globs_below HG.out (by repeat (first | (with_reducible first | exact HB.out | apply below_alloc | apply pw_below_drewN | apply below_drew1 | refine below_set ?_ GE460.out) | exact HB.out)))
           (case side2 => repeat (first | exact (Kd.C_below HR461.out HB.out) | (with_reducible refine Kd.C_alloc ?_ _) | (with_reducible refine Kd.C_drewN ?_ _) | (with_reducible refine Kd.C_drew ?_)))
           (case side3 => exact HC461.out)
           rintro e w20 ⟨rfl, hb⟩
           refine ⟨_, rfl, ?_⟩
           have n0_ := Aside0.mk (blk_below (g := gb460) (o := .cells #[.int .i64 x461000_1, .int .i64 x461001_1, .int .i64 x461002_1, .int .i64 x461003_1, .string x461004_1, .string x461005_1] 26 (0, 0)) (by (with_reducible repeat (first | refine blk_drewN ?_ _ | refine blk_drew ?_ | refine blk_alloc ?_ _)); exact BK460.out) hb)
           have n1_ := Aside0.mk (below_step (by repeat (first | (with_reducible first | exact HB.out | apply below_alloc | apply pw_below_drewN | apply below_drew1 | refine below_set ?_ GE460.out) | exact HB.out)) hb)
           clear BK460
           clear HB
           have BK460 := n0_
           have HB := n1_
           clear n0_ n1_
           (try clear hb)
           (try clear hb2)
           (try clear hk)
           (try clear hi)
           refine hK.out _ _ ⟨(blk_cell BK460.out 0).trans rfl, (blk_cell BK460.out 1).trans rfl, (blk_cell BK460.out 2).trans rfl, (blk_cell BK460.out 3).trans rfl, (blk_cell BK460.out 4).trans rfl, (blk_cell BK460.out 5).trans rfl⟩ (fun hHeld => ?_)
           clear hK K
           refine norm_ (a' := ?_) ?_ ?_
           rotate_left
           ·show Act.put _ (some 29) _ = _
            simp only [Act.put, List.setIfInBounds_toArray, List.set_cons_zero, List.set_cons_succ, i64_w, i32_w]
            rfl
           refine two_ (i := 7) (j := 11) (Ni := some 30) (Nj := some 5) #[true, true, true, true, true, true, true, true, false, false, false, false, false, false] #[true, true, true, true, true, true, true, false, false, false, false, true, false, false] rfl rfl rfl rfl (two_of HT_.out (by kernel_rfl)) (by decide) (by decide) (fun K hK => ?_) (fun K hK => ?_)
           ·skip
            refine goes_ Tryd.func17 (by kernel_rfl) rfl #[.agg #[.int .i64 x461000_1, .int .i64 x461001_1, .int .i64 x461002_1, .int .i64 x461003_1, .string x461004_1, .string x461005_1], .agg #[.int .i64 t462, .int .i64 t463, .int .i64 t464, .int .i64 t465, .string t466, .string t467]] (by rfl) rfl rfl (by (try simp only [List.map_toArray, List.map_cons, List.map_nil]); first | done | rfl | (simp only [List.length_drop, List.length_take]; rfl)) ?_
            with_reducible refine (weld_Join.calls k1 x461000_1 x461001_1 x461002_1 x461003_1 x461004_1 x461005_1 t462 t463 t464 t465 t466 t467 t468 t469 t470 t471 t472 t473 t474 _ ?side1 A16.out).mono ?_
            (case side1 => first | (with_reducible exact HG.out) | exact Glob.Globs_below HG.out (by repeat (first | (with_reducible first | exact HB.out | apply below_alloc | apply pw_below_drewN | apply below_drew1 | refine below_set ?_ GE460.out) | exact HB.out)))
            rintro e w21 ⟨rfl, hb⟩
            refine ⟨_, rfl, ?_⟩
            have n0_ := Aside0.mk (blk_below (g := gb460) (o := .cells #[.int .i64 x461000_1, .int .i64 x461001_1, .int .i64 x461002_1, .int .i64 x461003_1, .string x461004_1, .string x461005_1] 26 (0, 0)) (by (with_reducible repeat (first | refine blk_drewN ?_ _ | refine blk_drew ?_ | refine blk_alloc ?_ _)); exact BK460.out) hb)
            have n1_ := Aside0.mk (below_step (by repeat (first | (with_reducible first | exact HB.out | apply below_alloc | apply pw_below_drewN | apply below_drew1 | refine below_set ?_ GE460.out) | exact HB.out)) hb)
            clear BK460
            clear HB
            have BK460 := n0_
            have HB := n1_
            clear n0_ n1_
            (try clear hb)
            (try clear hb2)
            (try clear hk)
            (try clear hi)
            refine hK.out _ _ ⟨(blk_cell BK460.out 0).trans rfl, (blk_cell BK460.out 1).trans rfl, (blk_cell BK460.out 2).trans rfl, (blk_cell BK460.out 3).trans rfl, (blk_cell BK460.out 4).trans rfl, (blk_cell BK460.out 5).trans rfl⟩ (fun hHeld => ?_)
            clear hK K
            refine norm_ (a' := ?_) ?_ ?_
            rotate_left
            ·show Act.put _ (some 30) _ = _
             simp only [Act.put, List.setIfInBounds_toArray, List.set_cons_zero, List.set_cons_succ, i64_w, i32_w]
             rfl
            refine pure_ (i := 8) (N := some 22) (v := ?_) (a' := ?_) #[true, true, true, true, true, true, true, true, true, false, false, false, false, false] rfl rfl (any_of HT_.out (by kernel_rfl)) (fun _ _ _ h => h) (Or.inl ⟨by rfl, ?_⟩) ?_ ?_
            rotate_left
            ·intro w'
             go_simp
             with_reducible rfl
            rotate_left
            ·simp only [Act.put, List.setIfInBounds_toArray, List.set_cons_zero, List.set_cons_succ, i64_w, i32_w]
             rfl
            refine pure_ (i := 9) (N := some 31) (v := ?_) (a' := ?_) #[true, true, true, true, true, true, true, true, true, true, false, false, false, false] rfl rfl (any_of HT_.out (by kernel_rfl)) (fun _ _ _ h => h) (Or.inl ⟨by rfl, ?_⟩) ?_ ?_
            rotate_left
            ·intro w'
             go_simp
             with_reducible rfl
            rotate_left
            ·simp only [Act.put, List.setIfInBounds_toArray, List.set_cons_zero, List.set_cons_succ, i64_w, i32_w]
             rfl
            refine pure_ (i := 10) (N := some 32) (v := ?_) (a' := ?_) #[true, true, true, true, true, true, true, true, true, true, true, false, false, false] rfl rfl (any_of HT_.out (by kernel_rfl)) (fun _ _ _ h => h) (Or.inl ⟨by rfl, ?_⟩) ?_ ?_
            rotate_left
            ·intro w'
             go_simp
             with_reducible rfl
            rotate_left
            ·simp only [Act.put, List.setIfInBounds_toArray, List.set_cons_zero, List.set_cons_succ, i64_w, i32_w]
             rfl
            refine one_ (i := 11) (N := some 5) #[true, true, true, true, true, true, true, true, true, true, true, true, false, false] rfl rfl (one_of HT_.out (by kernel_rfl)) (by decide) (fun K hK => ?_)
            refine box_step ?hg (N := 5) ?hd (cs := #[.int .i64 0, .int .i64 0, .int .i64 0, .int .i64 0, .string (⟨#[]⟩ : ByteArray), .string (⟨#[]⟩ : ByteArray)]) (t := 26) ?hr ?_; (case hd => rfl); (case hg => rfl); (case hr => first | (go_simp; done) | (go_simp; rfl))
            intro gb475 hg w22 hbox hb
            have n0_ := Aside0.mk (blk_below (g := gb460) (o := .cells #[.int .i64 x461000_1, .int .i64 x461001_1, .int .i64 x461002_1, .int .i64 x461003_1, .string x461004_1, .string x461005_1] 26 (0, 0)) (by (with_reducible repeat (first | refine blk_drewN ?_ _ | refine blk_drew ?_ | refine blk_alloc ?_ _)); exact BK460.out) hb)
            have n1_ := Aside0.mk (below_step (by repeat (first | (with_reducible first | exact HB.out | apply below_alloc | apply pw_below_drewN | apply below_drew1 | refine below_set ?_ GE460.out) | exact HB.out)) hb)
            have n2_ := Aside0.mk (hbox)
            have n3_ := Aside0.mk ((by rw [hg]; exact (below_size (by repeat (first | (with_reducible first | exact HB.out | apply below_alloc | apply pw_below_drewN | apply below_drew1 | refine below_set ?_ GE460.out) | exact HB.out))) : w.heap.size ≤ gb475))
            have n4_ := Aside0.mk ((by rw [hg]; exact (below_size (by repeat (first | (with_reducible first | exact HB.out | apply below_alloc | apply pw_below_drewN | apply below_drew1 | refine below_set ?_ GE460.out) | exact HB.out))) : w.heap.size ≤ gb475))
            have n5_ := Aside0.mk ((by rw [hg]; exact Nat.ne_of_lt (blk_lt (g := gb460) (o := .cells #[.int .i64 x461000_1, .int .i64 x461001_1, .int .i64 x461002_1, .int .i64 x461003_1, .string x461004_1, .string x461005_1] 26 (0, 0)) (by (with_reducible repeat (first | refine blk_drewN ?_ _ | refine blk_drew ?_ | refine blk_alloc ?_ _)); exact BK460.out)) : gb460 ≠ gb475))
            have n6_ := Aside0.mk ((by rw [hg]; exact Nat.ne_of_gt (blk_lt (g := gb460) (o := .cells #[.int .i64 x461000_1, .int .i64 x461001_1, .int .i64 x461002_1, .int .i64 x461003_1, .string x461004_1, .string x461005_1] 26 (0, 0)) (by (with_reducible repeat (first | refine blk_drewN ?_ _ | refine blk_drew ?_ | refine blk_alloc ?_ _)); exact BK460.out)) : gb475 ≠ gb460))
            clear BK460
            clear HB
            have BK460 := n0_
            have HB := n1_
            have BK475 := n2_
            have GW475 := n3_
            have GE475 := n4_
            have NB460_475 := n5_
            have NB475_460 := n6_
            clear n0_ n1_ n2_ n3_ n4_ n5_ n6_
            clear hb hbox hg
            refine hK.out _ _ ⟨(blk_cell BK460.out 0).trans rfl, (blk_cell BK460.out 1).trans rfl, (blk_cell BK460.out 2).trans rfl, (blk_cell BK460.out 3).trans rfl, (blk_cell BK460.out 4).trans rfl, (blk_cell BK460.out 5).trans rfl⟩ (fun hHeld => ?_)
            clear hK K
            refine norm_ (a' := ?_) ?_ ?_
            rotate_left
            ·show Act.put _ (some 5) _ = _
             simp only [Act.put, List.setIfInBounds_toArray, List.set_cons_zero, List.set_cons_succ, i64_w, i32_w]
             rfl
            exact norm_ (by simp only [putAll, Act.put, List.setIfInBounds_toArray, List.set_cons_zero, List.set_cons_succ]) (hCont (gb475) _ ⟨hHeld, (by (with_reducible repeat (first | refine blk_drewN ?_ _ | refine blk_drew ?_ | refine blk_alloc ?_ _)); exact BK460.out), (by (with_reducible repeat (first | refine blk_drewN ?_ _ | refine blk_drew ?_ | refine blk_alloc ?_ _)); exact BK475.out), GW475.out, GE475.out, NB460_475.out, NB475_460.out, (by repeat (first | (with_reducible first | exact HB.out | apply below_alloc | apply pw_below_drewN | apply below_drew1 | refine below_set ?_ GE460.out | refine below_set ?_ GE475.out) | exact HB.out))⟩)
           ·skip
            refine box_step ?hg (N := 5) ?hd (cs := #[.int .i64 0, .int .i64 0, .int .i64 0, .int .i64 0, .string (⟨#[]⟩ : ByteArray), .string (⟨#[]⟩ : ByteArray)]) (t := 26) ?hr ?_; (case hd => rfl); (case hg => rfl); (case hr => first | (go_simp; done) | (go_simp; rfl))
            intro gb475 hg w21 hbox hb
            have n0_ := Aside0.mk (blk_below (g := gb460) (o := .cells #[.int .i64 x461000_1, .int .i64 x461001_1, .int .i64 x461002_1, .int .i64 x461003_1, .string x461004_1, .string x461005_1] 26 (0, 0)) (by (with_reducible repeat (first | refine blk_drewN ?_ _ | refine blk_drew ?_ | refine blk_alloc ?_ _)); exact BK460.out) hb)
            have n1_ := Aside0.mk (below_step (by repeat (first | (with_reducible first | exact HB.out | apply below_alloc | apply pw_below_drewN | apply below_drew1 | refine below_set ?_ GE460.out) | exact HB.out)) hb)
            have n2_ := Aside0.mk (hbox)
            have n3_ := Aside0.mk ((by rw [hg]; exact (below_size (by repeat (first | (with_reducible first | exact HB.out | apply below_alloc | apply pw_below_drewN | apply below_drew1 | refine below_set ?_ GE460.out) | exact HB.out))) : w.heap.size ≤ gb475))
            have n4_ := Aside0.mk ((by rw [hg]; exact (below_size (by repeat (first | (with_reducible first | exact HB.out | apply below_alloc | apply pw_below_drewN | apply below_drew1 | refine below_set ?_ GE460.out) | exact HB.out))) : w.heap.size ≤ gb475))
            have n5_ := Aside0.mk ((by rw [hg]; exact Nat.ne_of_lt (blk_lt (g := gb460) (o := .cells #[.int .i64 x461000_1, .int .i64 x461001_1, .int .i64 x461002_1, .int .i64 x461003_1, .string x461004_1, .string x461005_1] 26 (0, 0)) (by (with_reducible repeat (first | refine blk_drewN ?_ _ | refine blk_drew ?_ | refine blk_alloc ?_ _)); exact BK460.out)) : gb460 ≠ gb475))
            have n6_ := Aside0.mk ((by rw [hg]; exact Nat.ne_of_gt (blk_lt (g := gb460) (o := .cells #[.int .i64 x461000_1, .int .i64 x461001_1, .int .i64 x461002_1, .int .i64 x461003_1, .string x461004_1, .string x461005_1] 26 (0, 0)) (by (with_reducible repeat (first | refine blk_drewN ?_ _ | refine blk_drew ?_ | refine blk_alloc ?_ _)); exact BK460.out)) : gb475 ≠ gb460))
            clear BK460
            clear HB
            have BK460 := n0_
            have HB := n1_
            have BK475 := n2_
            have GW475 := n3_
            have GE475 := n4_
            have NB460_475 := n5_
            have NB475_460 := n6_
            clear n0_ n1_ n2_ n3_ n4_ n5_ n6_
            clear hb hbox hg
            refine hK.out _ _ ⟨(blk_cell BK460.out 0).trans rfl, (blk_cell BK460.out 1).trans rfl, (blk_cell BK460.out 2).trans rfl, (blk_cell BK460.out 3).trans rfl, (blk_cell BK460.out 4).trans rfl, (blk_cell BK460.out 5).trans rfl⟩ (fun hHeld => ?_)
            clear hK K
            refine norm_ (a' := ?_) ?_ ?_
            rotate_left
            ·show Act.put _ (some 5) _ = _
             simp only [Act.put, List.setIfInBounds_toArray, List.set_cons_zero, List.set_cons_succ, i64_w, i32_w]
             rfl
            refine one_ (i := 7) (N := some 30) #[true, true, true, true, true, true, true, true, false, false, false, true, false, false] rfl rfl (one_of HT_.out (by kernel_rfl)) (by decide) (fun K hK => ?_)
            refine goes_ Tryd.func17 (by kernel_rfl) rfl #[.agg #[.int .i64 x461000_1, .int .i64 x461001_1, .int .i64 x461002_1, .int .i64 x461003_1, .string x461004_1, .string x461005_1], .agg #[.int .i64 t462, .int .i64 t463, .int .i64 t464, .int .i64 t465, .string t466, .string t467]] (by rfl) rfl rfl (by (try simp only [List.map_toArray, List.map_cons, List.map_nil]); first | done | rfl | (simp only [List.length_drop, List.length_take]; rfl)) ?_
            with_reducible refine (weld_Join.calls k1 x461000_1 x461001_1 x461002_1 x461003_1 x461004_1 x461005_1 t462 t463 t464 t465 t466 t467 t468 t469 t470 t471 t472 t473 t474 _ ?side1 A16.out).mono ?_
            (case side1 => first | (with_reducible exact HG.out) | exact Glob.Globs_below HG.out (by repeat (first | (with_reducible first | exact HB.out | apply below_alloc | apply pw_below_drewN | apply below_drew1 | refine below_set ?_ GE460.out | refine below_set ?_ GE475.out) | exact HB.out)))
            rintro e w22 ⟨rfl, hb⟩
            refine ⟨_, rfl, ?_⟩
            have n0_ := Aside0.mk (blk_below (g := gb460) (o := .cells #[.int .i64 x461000_1, .int .i64 x461001_1, .int .i64 x461002_1, .int .i64 x461003_1, .string x461004_1, .string x461005_1] 26 (0, 0)) (by (with_reducible repeat (first | refine blk_drewN ?_ _ | refine blk_drew ?_ | refine blk_alloc ?_ _)); exact BK460.out) hb)
            have n1_ := Aside0.mk (blk_below (g := gb475) (o := .cells #[.int .i64 0, .int .i64 0, .int .i64 0, .int .i64 0, .string (⟨#[]⟩ : ByteArray), .string (⟨#[]⟩ : ByteArray)] 26 (0, 0)) (by (with_reducible repeat (first | refine blk_drewN ?_ _ | refine blk_drew ?_ | refine blk_alloc ?_ _)); exact BK475.out) hb)
            have n2_ := Aside0.mk (below_step (by repeat (first | (with_reducible first | exact HB.out | apply below_alloc | apply pw_below_drewN | apply below_drew1 | refine below_set ?_ GE460.out | refine below_set ?_ GE475.out) | exact HB.out)) hb)
            clear BK460
            clear BK475
            clear HB
            have BK460 := n0_
            have BK475 := n1_
            have HB := n2_
            clear n0_ n1_ n2_
            (try clear hb)
            (try clear hb2)
            (try clear hk)
            (try clear hi)
            refine hK.out _ _ ⟨(blk_cell BK460.out 0).trans rfl, (blk_cell BK460.out 1).trans rfl, (blk_cell BK460.out 2).trans rfl, (blk_cell BK460.out 3).trans rfl, (blk_cell BK460.out 4).trans rfl, (blk_cell BK460.out 5).trans rfl⟩ (fun hHeld => ?_)
            clear hK K
            refine norm_ (a' := ?_) ?_ ?_
            rotate_left
            ·show Act.put _ (some 30) _ = _
             simp only [Act.put, List.setIfInBounds_toArray, List.set_cons_zero, List.set_cons_succ, i64_w, i32_w]
             rfl
            refine pure_ (i := 8) (N := some 22) (v := ?_) (a' := ?_) #[true, true, true, true, true, true, true, true, true, false, false, true, false, false] rfl rfl (any_of HT_.out (by kernel_rfl)) (fun _ _ _ h => h) (Or.inl ⟨by rfl, ?_⟩) ?_ ?_
            rotate_left
            ·intro w'
             go_simp
             with_reducible rfl
            rotate_left
            ·simp only [Act.put, List.setIfInBounds_toArray, List.set_cons_zero, List.set_cons_succ, i64_w, i32_w]
             rfl
            refine pure_ (i := 9) (N := some 31) (v := ?_) (a' := ?_) #[true, true, true, true, true, true, true, true, true, true, false, true, false, false] rfl rfl (any_of HT_.out (by kernel_rfl)) (fun _ _ _ h => h) (Or.inl ⟨by rfl, ?_⟩) ?_ ?_
            rotate_left
            ·intro w'
             go_simp
             with_reducible rfl
            rotate_left
            ·simp only [Act.put, List.setIfInBounds_toArray, List.set_cons_zero, List.set_cons_succ, i64_w, i32_w]
             rfl
            refine pure_ (i := 10) (N := some 32) (v := ?_) (a' := ?_) #[true, true, true, true, true, true, true, true, true, true, true, true, false, false] rfl rfl (any_of HT_.out (by kernel_rfl)) (fun _ _ _ h => h) (Or.inl ⟨by rfl, ?_⟩) ?_ ?_
            rotate_left
            ·intro w'
             go_simp
             with_reducible rfl
            rotate_left
            ·simp only [Act.put, List.setIfInBounds_toArray, List.set_cons_zero, List.set_cons_succ, i64_w, i32_w]
             rfl
            exact norm_ (by simp only [putAll, Act.put, List.setIfInBounds_toArray, List.set_cons_zero, List.set_cons_succ]) (hCont (gb475) _ ⟨hHeld, (by (with_reducible repeat (first | refine blk_drewN ?_ _ | refine blk_drew ?_ | refine blk_alloc ?_ _)); exact BK460.out), (by (with_reducible repeat (first | refine blk_drewN ?_ _ | refine blk_drew ?_ | refine blk_alloc ?_ _)); exact BK475.out), GW475.out, GE475.out, NB460_475.out, NB475_460.out, (by repeat (first | (with_reducible first | exact HB.out | apply below_alloc | apply pw_below_drewN | apply below_drew1 | refine below_set ?_ GE460.out | refine below_set ?_ GE475.out) | exact HB.out))⟩)
          ·skip
           refine box_step ?hg (N := 5) ?hd (cs := #[.int .i64 0, .int .i64 0, .int .i64 0, .int .i64 0, .string (⟨#[]⟩ : ByteArray), .string (⟨#[]⟩ : ByteArray)]) (t := 26) ?hr ?_; (case hd => rfl); (case hg => rfl); (case hr => first | (go_simp; done) | (go_simp; rfl))
           intro gb475 hg w20 hbox hb
           have n0_ := Aside0.mk (blk_below (g := gb460) (o := .cells #[.int .i64 x461000_1, .int .i64 x461001_1, .int .i64 x461002_1, .int .i64 x461003_1, .string x461004_1, .string x461005_1] 26 (0, 0)) (by (with_reducible repeat (first | refine blk_drewN ?_ _ | refine blk_drew ?_ | refine blk_alloc ?_ _)); exact BK460.out) hb)
           have n1_ := Aside0.mk (below_step (by repeat (first | (with_reducible first | exact HB.out | apply below_alloc | apply pw_below_drewN | apply below_drew1 | refine below_set ?_ GE460.out) | exact HB.out)) hb)
           have n2_ := Aside0.mk (hbox)
           have n3_ := Aside0.mk ((by rw [hg]; exact (below_size (by repeat (first | (with_reducible first | exact HB.out | apply below_alloc | apply pw_below_drewN | apply below_drew1 | refine below_set ?_ GE460.out) | exact HB.out))) : w.heap.size ≤ gb475))
           have n4_ := Aside0.mk ((by rw [hg]; exact (below_size (by repeat (first | (with_reducible first | exact HB.out | apply below_alloc | apply pw_below_drewN | apply below_drew1 | refine below_set ?_ GE460.out) | exact HB.out))) : w.heap.size ≤ gb475))
           have n5_ := Aside0.mk ((by rw [hg]; exact Nat.ne_of_lt (blk_lt (g := gb460) (o := .cells #[.int .i64 x461000_1, .int .i64 x461001_1, .int .i64 x461002_1, .int .i64 x461003_1, .string x461004_1, .string x461005_1] 26 (0, 0)) (by (with_reducible repeat (first | refine blk_drewN ?_ _ | refine blk_drew ?_ | refine blk_alloc ?_ _)); exact BK460.out)) : gb460 ≠ gb475))
           have n6_ := Aside0.mk ((by rw [hg]; exact Nat.ne_of_gt (blk_lt (g := gb460) (o := .cells #[.int .i64 x461000_1, .int .i64 x461001_1, .int .i64 x461002_1, .int .i64 x461003_1, .string x461004_1, .string x461005_1] 26 (0, 0)) (by (with_reducible repeat (first | refine blk_drewN ?_ _ | refine blk_drew ?_ | refine blk_alloc ?_ _)); exact BK460.out)) : gb475 ≠ gb460))
           clear BK460
           clear HB
           have BK460 := n0_
           have HB := n1_
           have BK475 := n2_
           have GW475 := n3_
           have GE475 := n4_
           have NB460_475 := n5_
           have NB475_460 := n6_
           clear n0_ n1_ n2_ n3_ n4_ n5_ n6_
           clear hb hbox hg
           refine hK.out _ _ ⟨(blk_cell BK460.out 0).trans rfl, (blk_cell BK460.out 1).trans rfl, (blk_cell BK460.out 2).trans rfl, (blk_cell BK460.out 3).trans rfl, (blk_cell BK460.out 4).trans rfl, (blk_cell BK460.out 5).trans rfl⟩ (fun hHeld => ?_)
           clear hK K
           refine norm_ (a' := ?_) ?_ ?_
           rotate_left
           ·show Act.put _ (some 5) _ = _
            simp only [Act.put, List.setIfInBounds_toArray, List.set_cons_zero, List.set_cons_succ, i64_w, i32_w]
            rfl
           refine one_ (i := 6) (N := some 29) #[true, true, true, true, true, true, true, false, false, false, false, true, false, false] rfl rfl (one_of HT_.out (by kernel_rfl)) (by decide) (fun K hK => ?_)
           refine goes_ Tryd.func12 (by kernel_rfl) rfl #[.slice A19 ((l0.take ((wrap64 (x19_1 + 1)) : Int).toNat).drop (x19_1 : Int).toNat).length (c0 - x19_1.toNat)] (by rfl) rfl rfl (by (try simp only [List.map_toArray, List.map_cons, List.map_nil]); first | done | (rw [show ((l0.take ((wrap64 (x19_1 + 1)) : Int).toNat).drop (x19_1 : Int).toNat).length = ((wrap64 (x19_1 + 1)).toNat - x19_1.toNat) from (by rw [List.length_drop, List.length_take]; have h_ : ((wrap64 (x19_1 + 1)) : Int) ≤ (l0.length : Int) := of_decide_eq_true (by first | (with_reducible assumption) | assumption); omega)] <;> rfl) | rfl | (simp only [List.length_drop, List.length_take]; rfl)) ?_
           with_reducible refine (weld_Of.calls _ _ ((l0.take ((wrap64 (x19_1 + 1)) : Int).toNat).drop (x19_1 : Int).toNat) t462 t463 t464 t465 t466 t467 _ ?side1 ?side2 ?side3 A15.out).mono ?_
           (case side1 => first | (with_reducible exact HG.out) | exact Glob.Globs_below HG.out (by repeat (first | (with_reducible first | exact HB.out | apply below_alloc | apply pw_below_drewN | apply below_drew1 | refine below_set ?_ GE460.out | refine below_set ?_ GE475.out) | exact HB.out)))
           (case side2 => repeat (first | exact (Kd.C_below HR461.out HB.out) | (with_reducible refine Kd.C_alloc ?_ _) | (with_reducible refine Kd.C_drewN ?_ _) | (with_reducible refine Kd.C_drew ?_)))
           (case side3 => exact HC461.out)
           rintro e w21 ⟨rfl, hb⟩
           refine ⟨_, rfl, ?_⟩
           have n0_ := Aside0.mk (blk_below (g := gb460) (o := .cells #[.int .i64 x461000_1, .int .i64 x461001_1, .int .i64 x461002_1, .int .i64 x461003_1, .string x461004_1, .string x461005_1] 26 (0, 0)) (by (with_reducible repeat (first | refine blk_drewN ?_ _ | refine blk_drew ?_ | refine blk_alloc ?_ _)); exact BK460.out) hb)
           have n1_ := Aside0.mk (blk_below (g := gb475) (o := .cells #[.int .i64 0, .int .i64 0, .int .i64 0, .int .i64 0, .string (⟨#[]⟩ : ByteArray), .string (⟨#[]⟩ : ByteArray)] 26 (0, 0)) (by (with_reducible repeat (first | refine blk_drewN ?_ _ | refine blk_drew ?_ | refine blk_alloc ?_ _)); exact BK475.out) hb)
           have n2_ := Aside0.mk (below_step (by repeat (first | (with_reducible first | exact HB.out | apply below_alloc | apply pw_below_drewN | apply below_drew1 | refine below_set ?_ GE460.out | refine below_set ?_ GE475.out) | exact HB.out)) hb)
           clear BK460
           clear BK475
           clear HB
           have BK460 := n0_
           have BK475 := n1_
           have HB := n2_
           clear n0_ n1_ n2_
           (try clear hb)
           (try clear hb2)
           (try clear hk)
           (try clear hi)
           refine hK.out _ _ ⟨(blk_cell BK460.out 0).trans rfl, (blk_cell BK460.out 1).trans rfl, (blk_cell BK460.out 2).trans rfl, (blk_cell BK460.out 3).trans rfl, (blk_cell BK460.out 4).trans rfl, (blk_cell BK460.out 5).trans rfl⟩ (fun hHeld => ?_)
           clear hK K
           refine norm_ (a' := ?_) ?_ ?_
           rotate_left
           ·show Act.put _ (some 29) _ = _
            simp only [Act.put, List.setIfInBounds_toArray, List.set_cons_zero, List.set_cons_succ, i64_w, i32_w]
            rfl
           refine one_ (i := 7) (N := some 30) #[true, true, true, true, true, true, true, true, false, false, false, true, false, false] rfl rfl (one_of HT_.out (by kernel_rfl)) (by decide) (fun K hK => ?_)
           refine goes_ Tryd.func17 (by kernel_rfl) rfl #[.agg #[.int .i64 x461000_1, .int .i64 x461001_1, .int .i64 x461002_1, .int .i64 x461003_1, .string x461004_1, .string x461005_1], .agg #[.int .i64 t462, .int .i64 t463, .int .i64 t464, .int .i64 t465, .string t466, .string t467]] (by rfl) rfl rfl (by (try simp only [List.map_toArray, List.map_cons, List.map_nil]); first | done | rfl | (simp only [List.length_drop, List.length_take]; rfl)) ?_
           with_reducible refine (weld_Join.calls k1 x461000_1 x461001_1 x461002_1 x461003_1 x461004_1 x461005_1 t462 t463 t464 t465 t466 t467 t468 t469 t470 t471 t472 t473 t474 _ ?side1 A16.out).mono ?_
           (case side1 => first | (with_reducible exact HG.out) | exact Glob.Globs_below HG.out (by repeat (first | (with_reducible first | exact HB.out | apply below_alloc | apply pw_below_drewN | apply below_drew1 | refine below_set ?_ GE460.out | refine below_set ?_ GE475.out) | exact HB.out)))
           rintro e w22 ⟨rfl, hb⟩
           refine ⟨_, rfl, ?_⟩
           have n0_ := Aside0.mk (blk_below (g := gb460) (o := .cells #[.int .i64 x461000_1, .int .i64 x461001_1, .int .i64 x461002_1, .int .i64 x461003_1, .string x461004_1, .string x461005_1] 26 (0, 0)) (by (with_reducible repeat (first | refine blk_drewN ?_ _ | refine blk_drew ?_ | refine blk_alloc ?_ _)); exact BK460.out) hb)
           have n1_ := Aside0.mk (blk_below (g := gb475) (o := .cells #[.int .i64 0, .int .i64 0, .int .i64 0, .int .i64 0, .string (⟨#[]⟩ : ByteArray), .string (⟨#[]⟩ : ByteArray)] 26 (0, 0)) (by (with_reducible repeat (first | refine blk_drewN ?_ _ | refine blk_drew ?_ | refine blk_alloc ?_ _)); exact BK475.out) hb)
           have n2_ := Aside0.mk (below_step (by repeat (first | (with_reducible first | exact HB.out | apply below_alloc | apply pw_below_drewN | apply below_drew1 | refine below_set ?_ GE460.out | refine below_set ?_ GE475.out) | exact HB.out)) hb)
           clear BK460
           clear BK475
           clear HB
           have BK460 := n0_
           have BK475 := n1_
           have HB := n2_
           clear n0_ n1_ n2_
           (try clear hb)
           (try clear hb2)
           (try clear hk)
           (try clear hi)
           refine hK.out _ _ ⟨(blk_cell BK460.out 0).trans rfl, (blk_cell BK460.out 1).trans rfl, (blk_cell BK460.out 2).trans rfl, (blk_cell BK460.out 3).trans rfl, (blk_cell BK460.out 4).trans rfl, (blk_cell BK460.out 5).trans rfl⟩ (fun hHeld => ?_)
           clear hK K
           refine norm_ (a' := ?_) ?_ ?_
           rotate_left
           ·show Act.put _ (some 30) _ = _
            simp only [Act.put, List.setIfInBounds_toArray, List.set_cons_zero, List.set_cons_succ, i64_w, i32_w]
            rfl
           refine pure_ (i := 8) (N := some 22) (v := ?_) (a' := ?_) #[true, true, true, true, true, true, true, true, true, false, false, true, false, false] rfl rfl (any_of HT_.out (by kernel_rfl)) (fun _ _ _ h => h) (Or.inl ⟨by rfl, ?_⟩) ?_ ?_
           rotate_left
           ·intro w'
            go_simp
            with_reducible rfl
           rotate_left
           ·simp only [Act.put, List.setIfInBounds_toArray, List.set_cons_zero, List.set_cons_succ, i64_w, i32_w]
            rfl
           refine pure_ (i := 9) (N := some 31) (v := ?_) (a' := ?_) #[true, true, true, true, true, true, true, true, true, true, false, true, false, false] rfl rfl (any_of HT_.out (by kernel_rfl)) (fun _ _ _ h => h) (Or.inl ⟨by rfl, ?_⟩) ?_ ?_
           rotate_left
           ·intro w'
            go_simp
            with_reducible rfl
           rotate_left
           ·simp only [Act.put, List.setIfInBounds_toArray, List.set_cons_zero, List.set_cons_succ, i64_w, i32_w]
            rfl
           refine pure_ (i := 10) (N := some 32) (v := ?_) (a' := ?_) #[true, true, true, true, true, true, true, true, true, true, true, true, false, false] rfl rfl (any_of HT_.out (by kernel_rfl)) (fun _ _ _ h => h) (Or.inl ⟨by rfl, ?_⟩) ?_ ?_
           rotate_left
           ·intro w'
            go_simp
            with_reducible rfl
           rotate_left
           ·simp only [Act.put, List.setIfInBounds_toArray, List.set_cons_zero, List.set_cons_succ, i64_w, i32_w]
            rfl
           exact norm_ (by simp only [putAll, Act.put, List.setIfInBounds_toArray, List.set_cons_zero, List.set_cons_succ]) (hCont (gb475) _ ⟨hHeld, (by (with_reducible repeat (first | refine blk_drewN ?_ _ | refine blk_drew ?_ | refine blk_alloc ?_ _)); exact BK460.out), (by (with_reducible repeat (first | refine blk_drewN ?_ _ | refine blk_drew ?_ | refine blk_alloc ?_ _)); exact BK475.out), GW475.out, GE475.out, NB460_475.out, NB475_460.out, (by repeat (first | (with_reducible first | exact HB.out | apply below_alloc | apply pw_below_drewN | apply below_drew1 | refine below_set ?_ GE460.out | refine below_set ?_ GE475.out) | exact HB.out))⟩)
         rintro gb475 w23 ⟨hS_, h0_, h1_, h2_, h3_, h4_, h5_, h6_⟩
         have n0_ : Aside0 (w23.heap[gb460]? = some (.cells #[.int .i64 x461000_1, .int .i64 x461001_1, .int .i64 x461002_1, .int .i64 x461003_1, .string x461004_1, .string x461005_1] 26 (0, 0))) := ⟨h0_⟩
         have n1_ : Aside0 (w23.heap[gb475]? = some (.cells #[.int .i64 0, .int .i64 0, .int .i64 0, .int .i64 0, .string (⟨#[]⟩ : ByteArray), .string (⟨#[]⟩ : ByteArray)] 26 (0, 0))) := ⟨h1_⟩
         have n2_ : Aside0 (w.heap.size ≤ gb475) := ⟨h2_⟩
         have n3_ : Aside0 (w.heap.size ≤ gb475) := ⟨h3_⟩
         have n4_ : Aside0 (gb460 ≠ gb475) := ⟨h4_⟩
         have n5_ : Aside0 (gb475 ≠ gb460) := ⟨h5_⟩
         have n6_ : Aside0 (Below w.heap.size w w23) := ⟨h6_⟩
         clear BK460
         clear HB
         clear h0_ h1_ h2_ h3_ h4_ h5_ h6_
         have BK460 := n0_
         have BK475 := n1_
         have GW475 := n2_
         have GE475 := n3_
         have NB460_475 := n4_
         have NB475_460 := n5_
         have HB := n6_
         clear n0_ n1_ n2_ n3_ n4_ n5_ n6_
         have hHeld : w23.cell? ⟨gb460, 0, none⟩ = some (.int .i64 x461000_1) ∧ w23.cell? ⟨gb460, 1, none⟩ = some (.int .i64 x461001_1) ∧ w23.cell? ⟨gb460, 2, none⟩ = some (.int .i64 x461002_1) ∧ w23.cell? ⟨gb460, 3, none⟩ = some (.int .i64 x461003_1) ∧ w23.cell? ⟨gb460, 4, none⟩ = some (.string x461004_1) ∧ w23.cell? ⟨gb460, 5, none⟩ = some (.string x461005_1) := hS_
         refine norm_ (a' := ?_) ?_ ?_
         rotate_left
         ·simp only [putAll, Act.put, List.setIfInBounds_toArray, List.set_cons_zero, List.set_cons_succ]
          rfl
         refine one_ (i := 12) (N := none) #[true, true, true, true, true, true, true, true, true, true, true, true, true, false] rfl rfl (one_of HT_.out (by kernel_rfl)) (by decide) (fun K hK => ?_)
         have hs24 : w23.cell? ⟨gb475, 0, none⟩ = some (.int .i64 0) := (blk_cell BK475.out 0).trans rfl
         have hfs24 := blk_frozen BK475.out 0
         have hns24_0 := NB460_475.out
         have hms24_0 := NB475_460.out
         have hs25 : w23.cell? ⟨gb475, 1, none⟩ = some (.int .i64 0) := (blk_cell BK475.out 1).trans rfl
         have hfs25 := blk_frozen BK475.out 1
         have hns25_0 := NB460_475.out
         have hms25_0 := NB475_460.out
         have hs26 : w23.cell? ⟨gb475, 2, none⟩ = some (.int .i64 0) := (blk_cell BK475.out 2).trans rfl
         have hfs26 := blk_frozen BK475.out 2
         have hns26_0 := NB460_475.out
         have hms26_0 := NB475_460.out
         have hs27 : w23.cell? ⟨gb475, 3, none⟩ = some (.int .i64 0) := (blk_cell BK475.out 3).trans rfl
         have hfs27 := blk_frozen BK475.out 3
         have hns27_0 := NB460_475.out
         have hms27_0 := NB475_460.out
         have hs28 : w23.cell? ⟨gb475, 4, none⟩ = some (.string (⟨#[]⟩ : ByteArray)) := (blk_cell BK475.out 4).trans rfl
         have hfs28 := blk_frozen BK475.out 4
         have hns28_0 := NB460_475.out
         have hms28_0 := NB475_460.out
         have hs29 : w23.cell? ⟨gb475, 5, none⟩ = some (.string (⟨#[]⟩ : ByteArray)) := (blk_cell BK475.out 5).trans rfl
         have hfs29 := blk_frozen BK475.out 5
         have hns29_0 := NB460_475.out
         have hms29_0 := NB475_460.out
         refine skip_ (w1 := ?_) (by rfl) rfl ?_ ?_
         rotate_left
         ·go_simp
          rfl
         refine hK.out _ _ ⟨((cell_far (p := ⟨gb475, _, none⟩) NB460_475.out _).trans (((cell_far (p := ⟨gb475, _, none⟩) NB460_475.out _).trans (((cell_far (p := ⟨gb475, _, none⟩) NB460_475.out _).trans (((cell_far (p := ⟨gb475, _, none⟩) NB460_475.out _).trans (((cell_far (p := ⟨gb475, _, none⟩) NB460_475.out _).trans (((cell_far (p := ⟨gb475, _, none⟩) NB460_475.out _).trans (hHeld.1)))))))))))), ((cell_far (p := ⟨gb475, _, none⟩) NB460_475.out _).trans (((cell_far (p := ⟨gb475, _, none⟩) NB460_475.out _).trans (((cell_far (p := ⟨gb475, _, none⟩) NB460_475.out _).trans (((cell_far (p := ⟨gb475, _, none⟩) NB460_475.out _).trans (((cell_far (p := ⟨gb475, _, none⟩) NB460_475.out _).trans (((cell_far (p := ⟨gb475, _, none⟩) NB460_475.out _).trans (hHeld.2.1)))))))))))), ((cell_far (p := ⟨gb475, _, none⟩) NB460_475.out _).trans (((cell_far (p := ⟨gb475, _, none⟩) NB460_475.out _).trans (((cell_far (p := ⟨gb475, _, none⟩) NB460_475.out _).trans (((cell_far (p := ⟨gb475, _, none⟩) NB460_475.out _).trans (((cell_far (p := ⟨gb475, _, none⟩) NB460_475.out _).trans (((cell_far (p := ⟨gb475, _, none⟩) NB460_475.out _).trans (hHeld.2.2.1)))))))))))), ((cell_far (p := ⟨gb475, _, none⟩) NB460_475.out _).trans (((cell_far (p := ⟨gb475, _, none⟩) NB460_475.out _).trans (((cell_far (p := ⟨gb475, _, none⟩) NB460_475.out _).trans (((cell_far (p := ⟨gb475, _, none⟩) NB460_475.out _).trans (((cell_far (p := ⟨gb475, _, none⟩) NB460_475.out _).trans (((cell_far (p := ⟨gb475, _, none⟩) NB460_475.out _).trans (hHeld.2.2.2.1)))))))))))), ((cell_far (p := ⟨gb475, _, none⟩) NB460_475.out _).trans (((cell_far (p := ⟨gb475, _, none⟩) NB460_475.out _).trans (((cell_far (p := ⟨gb475, _, none⟩) NB460_475.out _).trans (((cell_far (p := ⟨gb475, _, none⟩) NB460_475.out _).trans (((cell_far (p := ⟨gb475, _, none⟩) NB460_475.out _).trans (((cell_far (p := ⟨gb475, _, none⟩) NB460_475.out _).trans (hHeld.2.2.2.2.1)))))))))))), ((cell_far (p := ⟨gb475, _, none⟩) NB460_475.out _).trans (((cell_far (p := ⟨gb475, _, none⟩) NB460_475.out _).trans (((cell_far (p := ⟨gb475, _, none⟩) NB460_475.out _).trans (((cell_far (p := ⟨gb475, _, none⟩) NB460_475.out _).trans (((cell_far (p := ⟨gb475, _, none⟩) NB460_475.out _).trans (((cell_far (p := ⟨gb475, _, none⟩) NB460_475.out _).trans (hHeld.2.2.2.2.2))))))))))))⟩ (fun hHeld => ?_)
         clear hK K
         refine pure_ (i := 13) (N := some 6) (v := ?_) (a' := ?_) #[true, true, true, true, true, true, true, true, true, true, true, true, true, true] rfl rfl (any_of HT_.out (by kernel_rfl)) (fun _ _ _ h => h) (Or.inl ⟨by rfl, ?_⟩) ?_ ?_
         rotate_left
         ·intro w'
          go_simp
          with_reducible rfl
         rotate_left
         ·simp only [Act.put, List.setIfInBounds_toArray, List.set_cons_zero, List.set_cons_succ, i64_w, i32_w]
          rfl
         refine done_ (done_of HT_.out (by kernel_rfl)) ?_
         go_upto_region 10 with (fail)
         go_cut [47] (fun v47 wc => ∃ (kq : Nat) (x47_16 : Bool), v47 = .bool x47_16 ∧ Aside0 (galleylaw05_WeldBytes.j1 kq l0 (l0.length : Int) x19_1 x47_16 t468 t469 t470 t471 t472 t473 = some r) ∧ Aside0 (kq ≤ k1) ∧ Aside0 (wc.heap[gb460]? = some (.cells #[.int .i64 x461000_1, .int .i64 x461001_1, .int .i64 x461002_1, .int .i64 x461003_1, .string x461004_1, .string x461005_1] 26 (0, 0))) ∧ Aside0 (wc.heap[gb475]? = some (.cells #[.int .i64 t468, .int .i64 t469, .int .i64 t470, .int .i64 t471, .string t472, .string t473] 26 (0, 0))) ∧ Aside0 (Below w.heap.size w wc))
         case first =>
          have H := HC17.out
          clear HC17
          by_cases c30 : t474 = 0
          ·rw [if_pos c30] at H
           have c30b0 : (t474 == 0) = true := beq_iff_eq.mpr c30
           have c30b1 : (t474 != 0) = false := bne_eq_false_iff_eq.mpr c30
           clear c30
           (first | rw [c30b0] | (simp only [i64_w, i32_w]; rw [c30b0]) | skip)
           by_cases c31 : x19_1 < 100
           ·rw [if_pos c31] at H
            have c31b0 : decide (x19_1 < 100) = true := decide_eq_true c31
            clear c31
            obtain ⟨ji32, hji32⟩ : ∃ j_ : Int, (wrap64 (x19_1 + 1)) = j_ := ⟨_, rfl⟩
            replace H : (if 0 ≤ (ji32) then ((weld_Of.f (l0.take ((ji32) : Int).toNat)).bind fun bt477 => (galleylaw05_WeldBytes.j1 k1 l0 (l0.length : Int) x19_1 ((!(t468 == bt477.1) || (!(t469 == bt477.2.1) || (!(t470 == bt477.2.2.1) || (!(t471 == bt477.2.2.2.1))))) || (!(t472.toList == bt477.2.2.2.2.1.toList) || (!(t473.toList == bt477.2.2.2.2.2.toList)))) t468 t469 t470 t471 t472 t473)) else (none)) = some r := by first | (rw [hji32] at H; exact H) | (simp only [hji32] at H ⊢; exact H)
            (try rw [hji32] at c13b0)
            (try rw [hji32] at c13b1)
            (try rw [hji32] at c13)
            (try rw [hji32] at c14b0)
            (try rw [hji32] at c14b1)
            (try rw [hji32] at c14)
            have hji32w : (IntKind.i64.wrap (x19_1 + 1)) = ji32 := (i64_w _).trans hji32
            by_cases c33 : 0 ≤ (ji32)
            ·rw [if_pos c33] at H
             have c33b0 := eq_true c33
             have c33b1 : decide (0 ≤ (ji32)) = true := decide_eq_true c33
             clear c33
             have c34b0 := eq_true (of_decide_eq_true (by first | (with_reducible assumption) | assumption) : (ji32) ≤ (l0.length : Int))
             replace H := Option.bind_eq_some_iff.mp H
             obtain ⟨⟨t477, t478, t479, t480, t481, t482⟩, A350, H⟩ := H
             replace H : (galleylaw05_WeldBytes.j1 k1 l0 (l0.length : Int) x19_1 ((!(t468 == t477) || (!(t469 == t478) || (!(t470 == t479) || (!(t471 == t480))))) || (!(t472.toList == t481.toList) || (!(t473.toList == t482.toList)))) t468 t469 t470 t471 t472 t473) = some r := H
             have A35 := Aside0.mk A350
             clear A350
             have H' := Aside0.mk H
             clear H
             try go_wp2
             have n0_ : Aside0 (((((((w23.setCell ⟨gb475, 0, none⟩ (.int .i64 t468)).setCell ⟨gb475, 1, none⟩ (.int .i64 t469)).setCell ⟨gb475, 2, none⟩ (.int .i64 t470)).setCell ⟨gb475, 3, none⟩ (.int .i64 t471)).setCell ⟨gb475, 4, none⟩ (.string t472)).setCell ⟨gb475, 5, none⟩ (.string t473)).heap[gb460]? = some (.cells #[.int .i64 x461000_1, .int .i64 x461001_1, .int .i64 x461002_1, .int .i64 x461003_1, .string x461004_1, .string x461005_1] 26 (0, 0))) := ⟨by (with_reducible repeat (first | refine blk_drewN ?_ _ | refine blk_drew ?_ | refine blk_alloc ?_ _)); refine blk_far ?_ NB460_475.out _; (with_reducible repeat (first | refine blk_drewN ?_ _ | refine blk_drew ?_ | refine blk_alloc ?_ _)); refine blk_far ?_ NB460_475.out _; (with_reducible repeat (first | refine blk_drewN ?_ _ | refine blk_drew ?_ | refine blk_alloc ?_ _)); refine blk_far ?_ NB460_475.out _; (with_reducible repeat (first | refine blk_drewN ?_ _ | refine blk_drew ?_ | refine blk_alloc ?_ _)); refine blk_far ?_ NB460_475.out _; (with_reducible repeat (first | refine blk_drewN ?_ _ | refine blk_drew ?_ | refine blk_alloc ?_ _)); refine blk_far ?_ NB460_475.out _; (with_reducible repeat (first | refine blk_drewN ?_ _ | refine blk_drew ?_ | refine blk_alloc ?_ _)); refine blk_far ?_ NB460_475.out _; (with_reducible repeat (first | refine blk_drewN ?_ _ | refine blk_drew ?_ | refine blk_alloc ?_ _)); exact BK460.out⟩
             have n1_ : Aside0 (((((((w23.setCell ⟨gb475, 0, none⟩ (.int .i64 t468)).setCell ⟨gb475, 1, none⟩ (.int .i64 t469)).setCell ⟨gb475, 2, none⟩ (.int .i64 t470)).setCell ⟨gb475, 3, none⟩ (.int .i64 t471)).setCell ⟨gb475, 4, none⟩ (.string t472)).setCell ⟨gb475, 5, none⟩ (.string t473)).heap[gb475]? = some (.cells #[.int .i64 t468, .int .i64 t469, .int .i64 t470, .int .i64 t471, .string t472, .string t473] 26 (0, 0))) := ⟨by (with_reducible repeat (first | refine blk_drewN ?_ _ | refine blk_drew ?_ | refine blk_alloc ?_ _)); refine blk_put (cs := #[.int .i64 t468, .int .i64 t469, .int .i64 t470, .int .i64 t471, .string t472, .string (⟨#[]⟩ : ByteArray)]) ?_ 5 _ rfl; (with_reducible repeat (first | refine blk_drewN ?_ _ | refine blk_drew ?_ | refine blk_alloc ?_ _)); refine blk_put (cs := #[.int .i64 t468, .int .i64 t469, .int .i64 t470, .int .i64 t471, .string (⟨#[]⟩ : ByteArray), .string (⟨#[]⟩ : ByteArray)]) ?_ 4 _ rfl; (with_reducible repeat (first | refine blk_drewN ?_ _ | refine blk_drew ?_ | refine blk_alloc ?_ _)); refine blk_put (cs := #[.int .i64 t468, .int .i64 t469, .int .i64 t470, .int .i64 0, .string (⟨#[]⟩ : ByteArray), .string (⟨#[]⟩ : ByteArray)]) ?_ 3 _ rfl; (with_reducible repeat (first | refine blk_drewN ?_ _ | refine blk_drew ?_ | refine blk_alloc ?_ _)); refine blk_put (cs := #[.int .i64 t468, .int .i64 t469, .int .i64 0, .int .i64 0, .string (⟨#[]⟩ : ByteArray), .string (⟨#[]⟩ : ByteArray)]) ?_ 2 _ rfl; (with_reducible repeat (first | refine blk_drewN ?_ _ | refine blk_drew ?_ | refine blk_alloc ?_ _)); refine blk_put (cs := #[.int .i64 t468, .int .i64 0, .int .i64 0, .int .i64 0, .string (⟨#[]⟩ : ByteArray), .string (⟨#[]⟩ : ByteArray)]) ?_ 1 _ rfl; (with_reducible repeat (first | refine blk_drewN ?_ _ | refine blk_drew ?_ | refine blk_alloc ?_ _)); refine blk_put (cs := #[.int .i64 0, .int .i64 0, .int .i64 0, .int .i64 0, .string (⟨#[]⟩ : ByteArray), .string (⟨#[]⟩ : ByteArray)]) ?_ 0 _ rfl; (with_reducible repeat (first | refine blk_drewN ?_ _ | refine blk_drew ?_ | refine blk_alloc ?_ _)); exact BK475.out⟩
             have n2_ : Aside0 (Below w.heap.size w ((((((w23.setCell ⟨gb475, 0, none⟩ (.int .i64 t468)).setCell ⟨gb475, 1, none⟩ (.int .i64 t469)).setCell ⟨gb475, 2, none⟩ (.int .i64 t470)).setCell ⟨gb475, 3, none⟩ (.int .i64 t471)).setCell ⟨gb475, 4, none⟩ (.string t472)).setCell ⟨gb475, 5, none⟩ (.string t473))) := ⟨by repeat (first | (with_reducible first | exact HB.out | apply below_alloc | apply pw_below_drewN | apply below_drew1 | refine below_set ?_ GE460.out | refine below_set ?_ GE475.out) | exact HB.out)⟩
             (try clear BK460)
             (try clear BK475)
             (try clear HB)
             generalize ((((((w23.setCell ⟨gb475, 0, none⟩ (.int .i64 t468)).setCell ⟨gb475, 1, none⟩ (.int .i64 t469)).setCell ⟨gb475, 2, none⟩ (.int .i64 t470)).setCell ⟨gb475, 3, none⟩ (.int .i64 t471)).setCell ⟨gb475, 4, none⟩ (.string t472)).setCell ⟨gb475, 5, none⟩ (.string t473)) = w36 at n0_ n1_ n2_ ⊢
             have BK460 := n0_
             have BK475 := n1_
             have HB := n2_
             clear n0_ n1_ n2_
             have n0_ := Aside0.mk (blk_drew BK460.out)
             have n1_ := Aside0.mk (blk_drew BK475.out)
             have n2_ := Aside0.mk (below_drew1 HB.out)
             clear BK460
             clear BK475
             clear HB
             have BK460 := n0_
             have BK475 := n1_
             have HB := n2_
             clear n0_ n1_ n2_
             obtain ⟨i038, hi038, _, hsz38, _⟩ := info_parts info5
             obtain ⟨hcut38, hA38, hC38⟩ := print_take_of (P := Tryd.prog) (Value.int .u8) 0 29 5 .i64 Tryd.underlying29 hi038 hsz38 A0 c0 l0 (ji32) (of_decide_eq_true (by first | (with_reducible assumption) | assumption)) (of_decide_eq_true (by first | (with_reducible assumption) | assumption)) HC0.out
             have HR476 := Aside0.mk (Kd.C_of_reads (h1 := fun _ => rfl) (hA38 _ (Kd.reads_of_C HR0.out)))
             have HC476 := Aside0.mk hC38
             clear hA38 hC38 hi038 hsz38
             refine start_ (n := 15) (S := fun w' => w'.cell? ⟨gb475, 0, none⟩ = some (.int .i64 t468) ∧ w'.cell? ⟨gb475, 1, none⟩ = some (.int .i64 t469) ∧ w'.cell? ⟨gb475, 2, none⟩ = some (.int .i64 t470) ∧ w'.cell? ⟨gb475, 3, none⟩ = some (.int .i64 t471) ∧ w'.cell? ⟨gb475, 4, none⟩ = some (.string t472) ∧ w'.cell? ⟨gb475, 5, none⟩ = some (.string t473)) (ds := []) #[false, false, false, false, false, false, false, false, false, false, false, false, false, false, false] (by kernel_rfl) rfl rfl ⟨(blk_cell BK475.out 0).trans rfl, (blk_cell BK475.out 1).trans rfl, (blk_cell BK475.out 2).trans rfl, (blk_cell BK475.out 3).trans rfl, (blk_cell BK475.out 4).trans rfl, (blk_cell BK475.out 5).trans rfl⟩ (fun hHeld => ?_); refine with_tabW galleylaw05_WeldBytes.tab10 galleylaw05_WeldBytes.bits10 (fun HT_ HW_ => ?_)
             generalize w36.drew = w37 at BK460 BK475 HB HR476 hHeld ⊢
             refine pure_ (i := 0) (N := some 33) (v := ?_) (a' := ?_) #[true, false, false, false, false, false, false, false, false, false, false, false, false, false, false] rfl rfl (any_of HT_.out (by kernel_rfl)) (fun _ _ _ h => h) (Or.inl ⟨by rfl, ?_⟩) ?_ ?_
             rotate_left
             ·intro w'
              go_simp
              with_reducible rfl
             rotate_left
             ·simp only [Act.put, List.setIfInBounds_toArray, List.set_cons_zero, List.set_cons_succ, i64_w, i32_w]
              rfl
             refine pure_ (i := 1) (N := some 34) (v := ?_) (a' := ?_) #[true, true, false, false, false, false, false, false, false, false, false, false, false, false, false] rfl rfl (any_of HT_.out (by kernel_rfl)) (fun _ _ _ h => h) (Or.inl ⟨by rfl, ?_⟩) ?_ ?_
             rotate_left
             ·intro w'
              go_simp
              with_reducible rfl
             rotate_left
             ·simp only [Act.put, List.setIfInBounds_toArray, List.set_cons_zero, List.set_cons_succ, i64_w, i32_w]
              rfl
             refine pure_ (i := 2) (N := some 35) (v := ?_) (a' := ?_) #[true, true, true, false, false, false, false, false, false, false, false, false, false, false, false] rfl rfl (any_of HT_.out (by kernel_rfl)) (fun _ _ _ h => h) (Or.inl ⟨by rfl, ?_⟩) ?_ ?_
             rotate_left
             ·intro w'
              go_simp
              with_reducible rfl
             rotate_left
             ·simp only [Act.put, List.setIfInBounds_toArray, List.set_cons_zero, List.set_cons_succ, i64_w, i32_w]
              rfl
             refine pure_ (i := 3) (N := some 36) (v := ?_) (a' := ?_) #[true, true, true, true, false, false, false, false, false, false, false, false, false, false, false] rfl rfl (any_of HT_.out (by kernel_rfl)) (fun _ _ _ h => h) (Or.inl ⟨by rfl, ?_⟩) ?_ ?_
             rotate_left
             ·intro w'
              go_simp
              with_reducible rfl
             rotate_left
             ·simp only [Act.put, List.setIfInBounds_toArray, List.set_cons_zero, List.set_cons_succ, i64_w, i32_w]
              rfl
             refine pure_ (i := 4) (N := some 37) (v := ?_) (a' := ?_) #[true, true, true, true, true, false, false, false, false, false, false, false, false, false, false] rfl rfl (any_of HT_.out (by kernel_rfl)) (fun _ _ _ h => h) (Or.inl ⟨by rfl, ?_⟩) ?_ ?_
             rotate_left
             ·intro w'
              go_simp
              with_reducible rfl
             rotate_left
             ·simp only [Act.put, List.setIfInBounds_toArray, List.set_cons_zero, List.set_cons_succ, i64_w, i32_w]
              rfl
             refine pure_ (i := 5) (N := some 38) (v := ?_) (a' := ?_) #[true, true, true, true, true, true, false, false, false, false, false, false, false, false, false] rfl rfl (any_of HT_.out (by kernel_rfl)) (fun _ _ _ h => h) (Or.inl ⟨by rfl, ?_⟩) ?_ ?_
             rotate_left
             ·intro w'
              go_simp
              with_reducible rfl
             rotate_left
             ·simp only [Act.put, List.setIfInBounds_toArray, List.set_cons_zero, List.set_cons_succ, i64_w, i32_w]
              rfl
             refine pure_ (i := 7) (N := some 40) (v := ?_) (a' := ?_) #[true, true, true, true, true, true, false, true, false, false, false, false, false, false, false] rfl rfl (any_of HT_.out (by kernel_rfl)) (fun _ _ _ h => h) (Or.inl ⟨by rfl, ?_⟩) ?_ ?_
             rotate_left
             ·intro w'
              go_simp
              with_reducible rfl
             rotate_left
             ·simp only [Act.put, List.setIfInBounds_toArray, List.set_cons_zero, List.set_cons_succ, i64_w, i32_w]
              rfl
             refine pure_ (i := 8) (N := some 41) (v := ?_) (a' := ?_) #[true, true, true, true, true, true, false, true, true, false, false, false, false, false, false] rfl rfl (any_of HT_.out (by kernel_rfl)) (fun _ _ _ h => h) (Or.inl ⟨by rfl, ?_⟩) ?_ ?_
             rotate_left
             ·intro w'
              go_simp
              with_reducible rfl
             rotate_left
             ·simp only [Act.put, List.setIfInBounds_toArray, List.set_cons_zero, List.set_cons_succ, i64_w, i32_w]
              rfl
             refine pure_ (i := 9) (N := some 42) (v := ?_) (a' := ?_) #[true, true, true, true, true, true, false, true, true, true, false, false, false, false, false] rfl rfl (any_of HT_.out (by kernel_rfl)) (fun _ _ _ h => h) (Or.inl ⟨by rfl, ?_⟩) ?_ ?_
             rotate_left
             ·intro w'
              go_simp
              with_reducible rfl
             rotate_left
             ·simp only [Act.put, List.setIfInBounds_toArray, List.set_cons_zero, List.set_cons_succ, i64_w, i32_w]
              rfl
             refine pure_ (i := 10) (N := some 43) (v := ?_) (a' := ?_) #[true, true, true, true, true, true, false, true, true, true, true, false, false, false, false] rfl rfl (any_of HT_.out (by kernel_rfl)) (fun _ _ _ h => h) (Or.inl ⟨by rfl, ?_⟩) ?_ ?_
             rotate_left
             ·intro w'
              go_simp
              with_reducible rfl
             rotate_left
             ·simp only [Act.put, List.setIfInBounds_toArray, List.set_cons_zero, List.set_cons_succ, i64_w, i32_w]
              rfl
             refine take_ (i := 6) (N := some 39) (v := ?_) (a' := ?_) #[true, true, true, true, true, true, true, true, true, true, true, false, false, false, false] rfl rfl (take_ofW HT_.out HW_.out (by kernel_rfl)) (fun _ _ _ h => h) (Or.inl ⟨by rfl, ?_⟩) hHeld ?_ ?_
             rotate_left
             ·rintro w' ⟨s0, s1, s2, s3, s4, s5⟩
              go_simp
              with_reducible rfl
             rotate_left
             ·simp only [Act.put, List.setIfInBounds_toArray, List.set_cons_zero, List.set_cons_succ, i64_w, i32_w]
              rfl
             refine one_ (i := 11) (N := some 44) #[true, true, true, true, true, true, true, true, true, true, true, true, false, false, false] rfl rfl (one_of HT_.out (by kernel_rfl)) (by decide) (fun K hK => ?_)
             refine goes_ Tryd.func12 (by kernel_rfl) rfl #[.slice A0 (l0.take ((ji32) : Int).toNat).length c0] (by rfl) rfl rfl (by (try simp only [List.map_toArray, List.map_cons, List.map_nil]); first | done | (rw [show (l0.take ((ji32) : Int).toNat).length = (ji32).toNat from (by rw [List.length_take]; have h_ : ((ji32) : Int) ≤ (l0.length : Int) := of_decide_eq_true (by first | (with_reducible assumption) | assumption); omega)] <;> rfl) | (simp only [hji32]; rfl) | rfl | (simp only [List.length_drop, List.length_take]; rfl)) ?_
             with_reducible refine (weld_Of.calls _ _ (l0.take ((ji32) : Int).toNat) t477 t478 t479 t480 t481 t482 _ ?side1 ?side2 ?side3 A35.out).mono ?_
             (case side1 => first | (with_reducible exact HG.out) | exact Glob.Globs_below HG.out (by repeat (first | (with_reducible first | exact HB.out | apply below_alloc | apply pw_below_drewN | apply below_drew1 | refine below_set ?_ GE460.out | refine below_set ?_ GE475.out) | exact HB.out)))
             (case side2 => repeat (first | exact (Kd.C_below HR476.out HB.out) | (with_reducible refine Kd.C_alloc ?_ _) | (with_reducible refine Kd.C_drewN ?_ _) | (with_reducible refine Kd.C_drew ?_)))
             (case side3 => exact HC476.out)
             rintro e w39 ⟨rfl, hb⟩
             refine ⟨_, rfl, ?_⟩
             have n0_ := Aside0.mk (blk_below (g := gb460) (o := .cells #[.int .i64 x461000_1, .int .i64 x461001_1, .int .i64 x461002_1, .int .i64 x461003_1, .string x461004_1, .string x461005_1] 26 (0, 0)) (by (with_reducible repeat (first | refine blk_drewN ?_ _ | refine blk_drew ?_ | refine blk_alloc ?_ _)); exact BK460.out) hb)
             have n1_ := Aside0.mk (blk_below (g := gb475) (o := .cells #[.int .i64 t468, .int .i64 t469, .int .i64 t470, .int .i64 t471, .string t472, .string t473] 26 (0, 0)) (by (with_reducible repeat (first | refine blk_drewN ?_ _ | refine blk_drew ?_ | refine blk_alloc ?_ _)); exact BK475.out) hb)
             have n2_ := Aside0.mk (below_step (by repeat (first | (with_reducible first | exact HB.out | apply below_alloc | apply pw_below_drewN | apply below_drew1 | refine below_set ?_ GE460.out | refine below_set ?_ GE475.out) | exact HB.out)) hb)
             clear BK460
             clear BK475
             clear HB
             have BK460 := n0_
             have BK475 := n1_
             have HB := n2_
             clear n0_ n1_ n2_
             (try clear hb)
             (try clear hb2)
             (try clear hk)
             (try clear hi)
             refine hK.out _ _ ⟨(blk_cell BK475.out 0).trans rfl, (blk_cell BK475.out 1).trans rfl, (blk_cell BK475.out 2).trans rfl, (blk_cell BK475.out 3).trans rfl, (blk_cell BK475.out 4).trans rfl, (blk_cell BK475.out 5).trans rfl⟩ (fun hHeld => ?_)
             clear hK K
             refine norm_ (a' := ?_) ?_ ?_
             rotate_left
             ·show Act.put _ (some 44) _ = _
              simp only [Act.put, List.setIfInBounds_toArray, List.set_cons_zero, List.set_cons_succ, i64_w, i32_w]
              rfl
             refine pure_ (i := 12) (N := some 45) (v := ?_) (a' := ?_) #[true, true, true, true, true, true, true, true, true, true, true, true, true, false, false] rfl rfl (any_of HT_.out (by kernel_rfl)) (fun _ _ _ h => h) (Or.inl ⟨by rfl, ?_⟩) ?_ ?_
             rotate_left
             ·intro w'
              go_simp
              with_reducible rfl
             rotate_left
             ·simp only [Act.put, List.setIfInBounds_toArray, List.set_cons_zero, List.set_cons_succ, i64_w, i32_w]
              rfl
             refine pure_ (i := 13) (N := some 46) (v := ?_) (a' := ?_) #[true, true, true, true, true, true, true, true, true, true, true, true, true, true, false] rfl rfl (any_of HT_.out (by kernel_rfl)) (fun _ _ _ h => h) (Or.inl ⟨by rfl, ?_⟩) ?_ ?_
             rotate_left
             ·intro w'
              go_simp
              with_reducible rfl
             rotate_left
             ·simp only [Act.put, List.setIfInBounds_toArray, List.set_cons_zero, List.set_cons_succ, i64_w, i32_w]
              rfl
             refine pure_ (i := 14) (N := some 47) (v := ?_) (a' := ?_) #[true, true, true, true, true, true, true, true, true, true, true, true, true, true, true] rfl rfl (any_of HT_.out (by kernel_rfl)) (fun _ _ _ h => h) (Or.inl ⟨by rfl, ?_⟩) ?_ ?_
             rotate_left
             ·intro w'
              go_simp
              with_reducible rfl
             rotate_left
             ·simp only [Act.put, List.setIfInBounds_toArray, List.set_cons_zero, List.set_cons_succ, i64_w, i32_w]
              rfl
             refine done_ (done_of HT_.out (by kernel_rfl)) ?_
             try go_wp2
             go_meet
             case rel => exact ⟨_, (((!(t468 == t477) || (!(t469 == t478) || (!(t470 == t479) || (!(t471 == t480))))) || (!(t472.toList == t481.toList) || (!(t473.toList == t482.toList))))), (by first | rfl | (simp; done) | (simp [*]; done)), H', ⟨by have := HK1.out; first | omega | exact Nat.le_refl _⟩, ⟨by (with_reducible repeat (first | refine blk_drewN ?_ _ | refine blk_drew ?_ | refine blk_alloc ?_ _)); exact BK460.out⟩, ⟨by (with_reducible repeat (first | refine blk_drewN ?_ _ | refine blk_drew ?_ | refine blk_alloc ?_ _)); exact BK475.out⟩, ⟨by repeat (first | (with_reducible first | exact HB.out | apply below_alloc | apply pw_below_drewN | apply below_drew1 | refine below_set ?_ GE460.out | refine below_set ?_ GE475.out) | exact HB.out)⟩⟩
            ·rw [if_neg c33] at H
             exact absurd H (by simp)
           ·rw [if_neg c31] at H
            have c31b0 : decide (x19_1 < 100) = false := decide_eq_false c31
            clear c31
            have H' := Aside0.mk H
            clear H
            try go_wp2
            have n0_ : Aside0 (((((((w23.setCell ⟨gb475, 0, none⟩ (.int .i64 t468)).setCell ⟨gb475, 1, none⟩ (.int .i64 t469)).setCell ⟨gb475, 2, none⟩ (.int .i64 t470)).setCell ⟨gb475, 3, none⟩ (.int .i64 t471)).setCell ⟨gb475, 4, none⟩ (.string t472)).setCell ⟨gb475, 5, none⟩ (.string t473)).heap[gb460]? = some (.cells #[.int .i64 x461000_1, .int .i64 x461001_1, .int .i64 x461002_1, .int .i64 x461003_1, .string x461004_1, .string x461005_1] 26 (0, 0))) := ⟨by (with_reducible repeat (first | refine blk_drewN ?_ _ | refine blk_drew ?_ | refine blk_alloc ?_ _)); refine blk_far ?_ NB460_475.out _; (with_reducible repeat (first | refine blk_drewN ?_ _ | refine blk_drew ?_ | refine blk_alloc ?_ _)); refine blk_far ?_ NB460_475.out _; (with_reducible repeat (first | refine blk_drewN ?_ _ | refine blk_drew ?_ | refine blk_alloc ?_ _)); refine blk_far ?_ NB460_475.out _; (with_reducible repeat (first | refine blk_drewN ?_ _ | refine blk_drew ?_ | refine blk_alloc ?_ _)); refine blk_far ?_ NB460_475.out _; (with_reducible repeat (first | refine blk_drewN ?_ _ | refine blk_drew ?_ | refine blk_alloc ?_ _)); refine blk_far ?_ NB460_475.out _; (with_reducible repeat (first | refine blk_drewN ?_ _ | refine blk_drew ?_ | refine blk_alloc ?_ _)); refine blk_far ?_ NB460_475.out _; (with_reducible repeat (first | refine blk_drewN ?_ _ | refine blk_drew ?_ | refine blk_alloc ?_ _)); exact BK460.out⟩
            have n1_ : Aside0 (((((((w23.setCell ⟨gb475, 0, none⟩ (.int .i64 t468)).setCell ⟨gb475, 1, none⟩ (.int .i64 t469)).setCell ⟨gb475, 2, none⟩ (.int .i64 t470)).setCell ⟨gb475, 3, none⟩ (.int .i64 t471)).setCell ⟨gb475, 4, none⟩ (.string t472)).setCell ⟨gb475, 5, none⟩ (.string t473)).heap[gb475]? = some (.cells #[.int .i64 t468, .int .i64 t469, .int .i64 t470, .int .i64 t471, .string t472, .string t473] 26 (0, 0))) := ⟨by (with_reducible repeat (first | refine blk_drewN ?_ _ | refine blk_drew ?_ | refine blk_alloc ?_ _)); refine blk_put (cs := #[.int .i64 t468, .int .i64 t469, .int .i64 t470, .int .i64 t471, .string t472, .string (⟨#[]⟩ : ByteArray)]) ?_ 5 _ rfl; (with_reducible repeat (first | refine blk_drewN ?_ _ | refine blk_drew ?_ | refine blk_alloc ?_ _)); refine blk_put (cs := #[.int .i64 t468, .int .i64 t469, .int .i64 t470, .int .i64 t471, .string (⟨#[]⟩ : ByteArray), .string (⟨#[]⟩ : ByteArray)]) ?_ 4 _ rfl; (with_reducible repeat (first | refine blk_drewN ?_ _ | refine blk_drew ?_ | refine blk_alloc ?_ _)); refine blk_put (cs := #[.int .i64 t468, .int .i64 t469, .int .i64 t470, .int .i64 0, .string (⟨#[]⟩ : ByteArray), .string (⟨#[]⟩ : ByteArray)]) ?_ 3 _ rfl; (with_reducible repeat (first | refine blk_drewN ?_ _ | refine blk_drew ?_ | refine blk_alloc ?_ _)); refine blk_put (cs := #[.int .i64 t468, .int .i64 t469, .int .i64 0, .int .i64 0, .string (⟨#[]⟩ : ByteArray), .string (⟨#[]⟩ : ByteArray)]) ?_ 2 _ rfl; (with_reducible repeat (first | refine blk_drewN ?_ _ | refine blk_drew ?_ | refine blk_alloc ?_ _)); refine blk_put (cs := #[.int .i64 t468, .int .i64 0, .int .i64 0, .int .i64 0, .string (⟨#[]⟩ : ByteArray), .string (⟨#[]⟩ : ByteArray)]) ?_ 1 _ rfl; (with_reducible repeat (first | refine blk_drewN ?_ _ | refine blk_drew ?_ | refine blk_alloc ?_ _)); refine blk_put (cs := #[.int .i64 0, .int .i64 0, .int .i64 0, .int .i64 0, .string (⟨#[]⟩ : ByteArray), .string (⟨#[]⟩ : ByteArray)]) ?_ 0 _ rfl; (with_reducible repeat (first | refine blk_drewN ?_ _ | refine blk_drew ?_ | refine blk_alloc ?_ _)); exact BK475.out⟩
            have n2_ : Aside0 (Below w.heap.size w ((((((w23.setCell ⟨gb475, 0, none⟩ (.int .i64 t468)).setCell ⟨gb475, 1, none⟩ (.int .i64 t469)).setCell ⟨gb475, 2, none⟩ (.int .i64 t470)).setCell ⟨gb475, 3, none⟩ (.int .i64 t471)).setCell ⟨gb475, 4, none⟩ (.string t472)).setCell ⟨gb475, 5, none⟩ (.string t473))) := ⟨by repeat (first | (with_reducible first | exact HB.out | apply below_alloc | apply pw_below_drewN | apply below_drew1 | refine below_set ?_ GE460.out | refine below_set ?_ GE475.out) | exact HB.out)⟩
            (try clear BK460)
            (try clear BK475)
            (try clear HB)
            generalize ((((((w23.setCell ⟨gb475, 0, none⟩ (.int .i64 t468)).setCell ⟨gb475, 1, none⟩ (.int .i64 t469)).setCell ⟨gb475, 2, none⟩ (.int .i64 t470)).setCell ⟨gb475, 3, none⟩ (.int .i64 t471)).setCell ⟨gb475, 4, none⟩ (.string t472)).setCell ⟨gb475, 5, none⟩ (.string t473)) = w40 at n0_ n1_ n2_ ⊢
            have BK460 := n0_
            have BK475 := n1_
            have HB := n2_
            clear n0_ n1_ n2_
            have n0_ := Aside0.mk (blk_drew BK460.out)
            have n1_ := Aside0.mk (blk_drew BK475.out)
            have n2_ := Aside0.mk (below_drew1 HB.out)
            clear BK460
            clear BK475
            clear HB
            have BK460 := n0_
            have BK475 := n1_
            have HB := n2_
            clear n0_ n1_ n2_
            refine start_ (n := 15) (S := fun w' => True) (ds := []) #[false, false, false, false, false, false, false, false, false, false, false, false, false, false, false] (by kernel_rfl) rfl rfl trivial (fun hHeld => ?_); refine with_tabW galleylaw05_WeldBytes.tab10 galleylaw05_WeldBytes.bits10 (fun HT_ HW_ => ?_)
            generalize w40.drew = w41 at BK460 BK475 HB hHeld ⊢
            refine pure_ (i := 0) (N := some 33) (v := ?_) (a' := ?_) #[true, false, false, false, false, false, false, false, false, false, false, false, false, false, false] rfl rfl (any_of HT_.out (by kernel_rfl)) (fun _ _ _ h => h) (Or.inl ⟨by rfl, ?_⟩) ?_ ?_
            rotate_left
            ·intro w'
             go_simp
             with_reducible rfl
            rotate_left
            ·simp only [Act.put, List.setIfInBounds_toArray, List.set_cons_zero, List.set_cons_succ, i64_w, i32_w]
             rfl
            refine pure_ (i := 1) (N := some 34) (v := ?_) (a' := ?_) #[true, true, false, false, false, false, false, false, false, false, false, false, false, false, false] rfl rfl (any_of HT_.out (by kernel_rfl)) (fun _ _ _ h => h) (Or.inl ⟨by rfl, ?_⟩) ?_ ?_
            rotate_left
            ·intro w'
             go_simp
             with_reducible rfl
            rotate_left
            ·simp only [Act.put, List.setIfInBounds_toArray, List.set_cons_zero, List.set_cons_succ, i64_w, i32_w]
             rfl
            refine pure_ (i := 2) (N := some 35) (v := ?_) (a' := ?_) #[true, true, true, false, false, false, false, false, false, false, false, false, false, false, false] rfl rfl (any_of HT_.out (by kernel_rfl)) (fun _ _ _ h => h) (Or.inl ⟨by rfl, ?_⟩) ?_ ?_
            rotate_left
            ·intro w'
             go_simp
             with_reducible rfl
            rotate_left
            ·simp only [Act.put, List.setIfInBounds_toArray, List.set_cons_zero, List.set_cons_succ, i64_w, i32_w]
             rfl
            refine pure_ (i := 3) (N := some 36) (v := ?_) (a' := ?_) #[true, true, true, true, false, false, false, false, false, false, false, false, false, false, false] rfl rfl (any_of HT_.out (by kernel_rfl)) (fun _ _ _ h => h) (Or.inl ⟨by rfl, ?_⟩) ?_ ?_
            rotate_left
            ·intro w'
             go_simp
             with_reducible rfl
            rotate_left
            ·simp only [Act.put, List.setIfInBounds_toArray, List.set_cons_zero, List.set_cons_succ, i64_w, i32_w]
             rfl
            refine pure_ (i := 4) (N := some 37) (v := ?_) (a' := ?_) #[true, true, true, true, true, false, false, false, false, false, false, false, false, false, false] rfl rfl (any_of HT_.out (by kernel_rfl)) (fun _ _ _ h => h) (Or.inl ⟨by rfl, ?_⟩) ?_ ?_
            rotate_left
            ·intro w'
             go_simp
             with_reducible rfl
            rotate_left
            ·simp only [Act.put, List.setIfInBounds_toArray, List.set_cons_zero, List.set_cons_succ, i64_w, i32_w]
             rfl
            refine pure_ (i := 5) (N := some 38) (v := ?_) (a' := ?_) #[true, true, true, true, true, true, false, false, false, false, false, false, false, false, false] rfl rfl (any_of HT_.out (by kernel_rfl)) (fun _ _ _ h => h) (Or.inl ⟨by rfl, ?_⟩) ?_ ?_
            rotate_left
            ·intro w'
             go_simp
             with_reducible rfl
            rotate_left
            ·simp only [Act.put, List.setIfInBounds_toArray, List.set_cons_zero, List.set_cons_succ, i64_w, i32_w]
             rfl
            refine pure_ (i := 6) (N := some 39) (v := undef) (a' := ?_) #[true, true, true, true, true, true, true, false, false, false, false, false, false, false, false] rfl rfl (any_of HT_.out (by kernel_rfl)) (fun _ _ _ h => h) (Or.inr ⟨by rfl, rfl⟩) ?_ ?_
            rotate_left
            ·simp only [Act.put, List.setIfInBounds_toArray, List.set_cons_zero, List.set_cons_succ, i64_w, i32_w]
             rfl
            refine pure_ (i := 7) (N := some 40) (v := undef) (a' := ?_) #[true, true, true, true, true, true, true, true, false, false, false, false, false, false, false] rfl rfl (any_of HT_.out (by kernel_rfl)) (fun _ _ _ h => h) (Or.inr ⟨by rfl, rfl⟩) ?_ ?_
            rotate_left
            ·simp only [Act.put, List.setIfInBounds_toArray, List.set_cons_zero, List.set_cons_succ, i64_w, i32_w]
             rfl
            refine pure_ (i := 8) (N := some 41) (v := undef) (a' := ?_) #[true, true, true, true, true, true, true, true, true, false, false, false, false, false, false] rfl rfl (any_of HT_.out (by kernel_rfl)) (fun _ _ _ h => h) (Or.inr ⟨by rfl, rfl⟩) ?_ ?_
            rotate_left
            ·simp only [Act.put, List.setIfInBounds_toArray, List.set_cons_zero, List.set_cons_succ, i64_w, i32_w]
             rfl
            refine pure_ (i := 9) (N := some 42) (v := undef) (a' := ?_) #[true, true, true, true, true, true, true, true, true, true, false, false, false, false, false] rfl rfl (any_of HT_.out (by kernel_rfl)) (fun _ _ _ h => h) (Or.inr ⟨by rfl, rfl⟩) ?_ ?_
            rotate_left
            ·simp only [Act.put, List.setIfInBounds_toArray, List.set_cons_zero, List.set_cons_succ, i64_w, i32_w]
             rfl
            refine pure_ (i := 10) (N := some 43) (v := undef) (a' := ?_) #[true, true, true, true, true, true, true, true, true, true, true, false, false, false, false] rfl rfl (any_of HT_.out (by kernel_rfl)) (fun _ _ _ h => h) (Or.inr ⟨by rfl, rfl⟩) ?_ ?_
            rotate_left
            ·simp only [Act.put, List.setIfInBounds_toArray, List.set_cons_zero, List.set_cons_succ, i64_w, i32_w]
             rfl
            refine pure_ (i := 11) (N := some 44) (v := undef) (a' := ?_) #[true, true, true, true, true, true, true, true, true, true, true, true, false, false, false] rfl rfl (any_of HT_.out (by kernel_rfl)) (fun _ _ _ h => h) (Or.inr ⟨by rfl, rfl⟩) ?_ ?_
            rotate_left
            ·simp only [Act.put, List.setIfInBounds_toArray, List.set_cons_zero, List.set_cons_succ, i64_w, i32_w]
             rfl
            refine pure_ (i := 12) (N := some 45) (v := undef) (a' := ?_) #[true, true, true, true, true, true, true, true, true, true, true, true, true, false, false] rfl rfl (any_of HT_.out (by kernel_rfl)) (fun _ _ _ h => h) (Or.inr ⟨by rfl, rfl⟩) ?_ ?_
            rotate_left
            ·simp only [Act.put, List.setIfInBounds_toArray, List.set_cons_zero, List.set_cons_succ, i64_w, i32_w]
             rfl
            refine pure_ (i := 13) (N := some 46) (v := ?_) (a' := ?_) #[true, true, true, true, true, true, true, true, true, true, true, true, true, true, false] rfl rfl (any_of HT_.out (by kernel_rfl)) (fun _ _ _ h => h) (Or.inl ⟨by rfl, ?_⟩) ?_ ?_
            rotate_left
            ·intro w'
             go_simp
             with_reducible rfl
            rotate_left
            ·simp only [Act.put, List.setIfInBounds_toArray, List.set_cons_zero, List.set_cons_succ, i64_w, i32_w]
             rfl
            refine pure_ (i := 14) (N := some 47) (v := ?_) (a' := ?_) #[true, true, true, true, true, true, true, true, true, true, true, true, true, true, true] rfl rfl (any_of HT_.out (by kernel_rfl)) (fun _ _ _ h => h) (Or.inl ⟨by rfl, ?_⟩) ?_ ?_
            rotate_left
            ·intro w'
             go_simp
             with_reducible rfl
            rotate_left
            ·simp only [Act.put, List.setIfInBounds_toArray, List.set_cons_zero, List.set_cons_succ, i64_w, i32_w]
             rfl
            refine done_ (done_of HT_.out (by kernel_rfl)) ?_
            try go_wp2
            go_meet
            case rel => exact ⟨_, (false), (by first | rfl | (simp; done) | (simp [*]; done)), H', ⟨by have := HK1.out; first | omega | exact Nat.le_refl _⟩, ⟨by (with_reducible repeat (first | refine blk_drewN ?_ _ | refine blk_drew ?_ | refine blk_alloc ?_ _)); exact BK460.out⟩, ⟨by (with_reducible repeat (first | refine blk_drewN ?_ _ | refine blk_drew ?_ | refine blk_alloc ?_ _)); exact BK475.out⟩, ⟨by repeat (first | (with_reducible first | exact HB.out | apply below_alloc | apply pw_below_drewN | apply below_drew1 | refine below_set ?_ GE460.out | refine below_set ?_ GE475.out) | exact HB.out)⟩⟩
          ·rw [if_neg c30] at H
           have c30b0 : (t474 == 0) = false := beq_eq_false_iff_ne.mpr c30
           have c30b1 : (t474 != 0) = true := bne_iff_ne.mpr c30
           (first | rw [c30b0] | (simp only [i64_w, i32_w]; rw [c30b0]) | skip)
           have H' := Aside0.mk H
           clear H
           try go_wp2
           have n0_ : Aside0 (((((((w23.setCell ⟨gb475, 0, none⟩ (.int .i64 t468)).setCell ⟨gb475, 1, none⟩ (.int .i64 t469)).setCell ⟨gb475, 2, none⟩ (.int .i64 t470)).setCell ⟨gb475, 3, none⟩ (.int .i64 t471)).setCell ⟨gb475, 4, none⟩ (.string t472)).setCell ⟨gb475, 5, none⟩ (.string t473)).heap[gb460]? = some (.cells #[.int .i64 x461000_1, .int .i64 x461001_1, .int .i64 x461002_1, .int .i64 x461003_1, .string x461004_1, .string x461005_1] 26 (0, 0))) := ⟨by (with_reducible repeat (first | refine blk_drewN ?_ _ | refine blk_drew ?_ | refine blk_alloc ?_ _)); refine blk_far ?_ NB460_475.out _; (with_reducible repeat (first | refine blk_drewN ?_ _ | refine blk_drew ?_ | refine blk_alloc ?_ _)); refine blk_far ?_ NB460_475.out _; (with_reducible repeat (first | refine blk_drewN ?_ _ | refine blk_drew ?_ | refine blk_alloc ?_ _)); refine blk_far ?_ NB460_475.out _; (with_reducible repeat (first | refine blk_drewN ?_ _ | refine blk_drew ?_ | refine blk_alloc ?_ _)); refine blk_far ?_ NB460_475.out _; (with_reducible repeat (first | refine blk_drewN ?_ _ | refine blk_drew ?_ | refine blk_alloc ?_ _)); refine blk_far ?_ NB460_475.out _; (with_reducible repeat (first | refine blk_drewN ?_ _ | refine blk_drew ?_ | refine blk_alloc ?_ _)); refine blk_far ?_ NB460_475.out _; (with_reducible repeat (first | refine blk_drewN ?_ _ | refine blk_drew ?_ | refine blk_alloc ?_ _)); exact BK460.out⟩
           have n1_ : Aside0 (((((((w23.setCell ⟨gb475, 0, none⟩ (.int .i64 t468)).setCell ⟨gb475, 1, none⟩ (.int .i64 t469)).setCell ⟨gb475, 2, none⟩ (.int .i64 t470)).setCell ⟨gb475, 3, none⟩ (.int .i64 t471)).setCell ⟨gb475, 4, none⟩ (.string t472)).setCell ⟨gb475, 5, none⟩ (.string t473)).heap[gb475]? = some (.cells #[.int .i64 t468, .int .i64 t469, .int .i64 t470, .int .i64 t471, .string t472, .string t473] 26 (0, 0))) := ⟨by (with_reducible repeat (first | refine blk_drewN ?_ _ | refine blk_drew ?_ | refine blk_alloc ?_ _)); refine blk_put (cs := #[.int .i64 t468, .int .i64 t469, .int .i64 t470, .int .i64 t471, .string t472, .string (⟨#[]⟩ : ByteArray)]) ?_ 5 _ rfl; (with_reducible repeat (first | refine blk_drewN ?_ _ | refine blk_drew ?_ | refine blk_alloc ?_ _)); refine blk_put (cs := #[.int .i64 t468, .int .i64 t469, .int .i64 t470, .int .i64 t471, .string (⟨#[]⟩ : ByteArray), .string (⟨#[]⟩ : ByteArray)]) ?_ 4 _ rfl; (with_reducible repeat (first | refine blk_drewN ?_ _ | refine blk_drew ?_ | refine blk_alloc ?_ _)); refine blk_put (cs := #[.int .i64 t468, .int .i64 t469, .int .i64 t470, .int .i64 0, .string (⟨#[]⟩ : ByteArray), .string (⟨#[]⟩ : ByteArray)]) ?_ 3 _ rfl; (with_reducible repeat (first | refine blk_drewN ?_ _ | refine blk_drew ?_ | refine blk_alloc ?_ _)); refine blk_put (cs := #[.int .i64 t468, .int .i64 t469, .int .i64 0, .int .i64 0, .string (⟨#[]⟩ : ByteArray), .string (⟨#[]⟩ : ByteArray)]) ?_ 2 _ rfl; (with_reducible repeat (first | refine blk_drewN ?_ _ | refine blk_drew ?_ | refine blk_alloc ?_ _)); refine blk_put (cs := #[.int .i64 t468, .int .i64 0, .int .i64 0, .int .i64 0, .string (⟨#[]⟩ : ByteArray), .string (⟨#[]⟩ : ByteArray)]) ?_ 1 _ rfl; (with_reducible repeat (first | refine blk_drewN ?_ _ | refine blk_drew ?_ | refine blk_alloc ?_ _)); refine blk_put (cs := #[.int .i64 0, .int .i64 0, .int .i64 0, .int .i64 0, .string (⟨#[]⟩ : ByteArray), .string (⟨#[]⟩ : ByteArray)]) ?_ 0 _ rfl; (with_reducible repeat (first | refine blk_drewN ?_ _ | refine blk_drew ?_ | refine blk_alloc ?_ _)); exact BK475.out⟩
           have n2_ : Aside0 (Below w.heap.size w ((((((w23.setCell ⟨gb475, 0, none⟩ (.int .i64 t468)).setCell ⟨gb475, 1, none⟩ (.int .i64 t469)).setCell ⟨gb475, 2, none⟩ (.int .i64 t470)).setCell ⟨gb475, 3, none⟩ (.int .i64 t471)).setCell ⟨gb475, 4, none⟩ (.string t472)).setCell ⟨gb475, 5, none⟩ (.string t473))) := ⟨by repeat (first | (with_reducible first | exact HB.out | apply below_alloc | apply pw_below_drewN | apply below_drew1 | refine below_set ?_ GE460.out | refine below_set ?_ GE475.out) | exact HB.out)⟩
           (try clear BK460)
           (try clear BK475)
           (try clear HB)
           generalize ((((((w23.setCell ⟨gb475, 0, none⟩ (.int .i64 t468)).setCell ⟨gb475, 1, none⟩ (.int .i64 t469)).setCell ⟨gb475, 2, none⟩ (.int .i64 t470)).setCell ⟨gb475, 3, none⟩ (.int .i64 t471)).setCell ⟨gb475, 4, none⟩ (.string t472)).setCell ⟨gb475, 5, none⟩ (.string t473)) = w42 at n0_ n1_ n2_ ⊢
           have BK460 := n0_
           have BK475 := n1_
           have HB := n2_
           clear n0_ n1_ n2_
           have n0_ := Aside0.mk (blk_drew BK460.out)
           have n1_ := Aside0.mk (blk_drew BK475.out)
           have n2_ := Aside0.mk (below_drew1 HB.out)
           clear BK460
           clear BK475
           clear HB
           have BK460 := n0_
           have BK475 := n1_
           have HB := n2_
           clear n0_ n1_ n2_
           refine start_ (n := 15) (S := fun w' => True) (ds := []) #[false, false, false, false, false, false, false, false, false, false, false, false, false, false, false] (by kernel_rfl) rfl rfl trivial (fun hHeld => ?_); refine with_tabW galleylaw05_WeldBytes.tab10 galleylaw05_WeldBytes.bits10 (fun HT_ HW_ => ?_)
           generalize w42.drew = w43 at BK460 BK475 HB hHeld ⊢
           refine pure_ (i := 0) (N := some 33) (v := ?_) (a' := ?_) #[true, false, false, false, false, false, false, false, false, false, false, false, false, false, false] rfl rfl (any_of HT_.out (by kernel_rfl)) (fun _ _ _ h => h) (Or.inl ⟨by rfl, ?_⟩) ?_ ?_
           rotate_left
           ·intro w'
            go_simp
            with_reducible rfl
           rotate_left
           ·simp only [Act.put, List.setIfInBounds_toArray, List.set_cons_zero, List.set_cons_succ, i64_w, i32_w]
            rfl
           refine pure_ (i := 1) (N := some 34) (v := ?_) (a' := ?_) #[true, true, false, false, false, false, false, false, false, false, false, false, false, false, false] rfl rfl (any_of HT_.out (by kernel_rfl)) (fun _ _ _ h => h) (Or.inl ⟨by rfl, ?_⟩) ?_ ?_
           rotate_left
           ·intro w'
            go_simp
            with_reducible rfl
           rotate_left
           ·simp only [Act.put, List.setIfInBounds_toArray, List.set_cons_zero, List.set_cons_succ, i64_w, i32_w]
            rfl
           refine pure_ (i := 2) (N := some 35) (v := ?_) (a' := ?_) #[true, true, true, false, false, false, false, false, false, false, false, false, false, false, false] rfl rfl (any_of HT_.out (by kernel_rfl)) (fun _ _ _ h => h) (Or.inl ⟨by rfl, ?_⟩) ?_ ?_
           rotate_left
           ·intro w'
            go_simp
            with_reducible rfl
           rotate_left
           ·simp only [Act.put, List.setIfInBounds_toArray, List.set_cons_zero, List.set_cons_succ, i64_w, i32_w]
            rfl
           refine pure_ (i := 3) (N := some 36) (v := undef) (a' := ?_) #[true, true, true, true, false, false, false, false, false, false, false, false, false, false, false] rfl rfl (any_of HT_.out (by kernel_rfl)) (fun _ _ _ h => h) (Or.inr ⟨by rfl, rfl⟩) ?_ ?_
           rotate_left
           ·simp only [Act.put, List.setIfInBounds_toArray, List.set_cons_zero, List.set_cons_succ, i64_w, i32_w]
            rfl
           refine pure_ (i := 4) (N := some 37) (v := undef) (a' := ?_) #[true, true, true, true, true, false, false, false, false, false, false, false, false, false, false] rfl rfl (any_of HT_.out (by kernel_rfl)) (fun _ _ _ h => h) (Or.inr ⟨by rfl, rfl⟩) ?_ ?_
           rotate_left
           ·simp only [Act.put, List.setIfInBounds_toArray, List.set_cons_zero, List.set_cons_succ, i64_w, i32_w]
            rfl
           refine pure_ (i := 5) (N := some 38) (v := undef) (a' := ?_) #[true, true, true, true, true, true, false, false, false, false, false, false, false, false, false] rfl rfl (any_of HT_.out (by kernel_rfl)) (fun _ _ _ h => h) (Or.inr ⟨by rfl, rfl⟩) ?_ ?_
           rotate_left
           ·simp only [Act.put, List.setIfInBounds_toArray, List.set_cons_zero, List.set_cons_succ, i64_w, i32_w]
            rfl
           refine pure_ (i := 6) (N := some 39) (v := undef) (a' := ?_) #[true, true, true, true, true, true, true, false, false, false, false, false, false, false, false] rfl rfl (any_of HT_.out (by kernel_rfl)) (fun _ _ _ h => h) (Or.inr ⟨by rfl, rfl⟩) ?_ ?_
           rotate_left
           ·simp only [Act.put, List.setIfInBounds_toArray, List.set_cons_zero, List.set_cons_succ, i64_w, i32_w]
            rfl
           refine pure_ (i := 7) (N := some 40) (v := undef) (a' := ?_) #[true, true, true, true, true, true, true, true, false, false, false, false, false, false, false] rfl rfl (any_of HT_.out (by kernel_rfl)) (fun _ _ _ h => h) (Or.inr ⟨by rfl, rfl⟩) ?_ ?_
           rotate_left
           ·simp only [Act.put, List.setIfInBounds_toArray, List.set_cons_zero, List.set_cons_succ, i64_w, i32_w]
            rfl
           refine pure_ (i := 8) (N := some 41) (v := undef) (a' := ?_) #[true, true, true, true, true, true, true, true, true, false, false, false, false, false, false] rfl rfl (any_of HT_.out (by kernel_rfl)) (fun _ _ _ h => h) (Or.inr ⟨by rfl, rfl⟩) ?_ ?_
           rotate_left
           ·simp only [Act.put, List.setIfInBounds_toArray, List.set_cons_zero, List.set_cons_succ, i64_w, i32_w]
            rfl
           refine pure_ (i := 9) (N := some 42) (v := undef) (a' := ?_) #[true, true, true, true, true, true, true, true, true, true, false, false, false, false, false] rfl rfl (any_of HT_.out (by kernel_rfl)) (fun _ _ _ h => h) (Or.inr ⟨by rfl, rfl⟩) ?_ ?_
           rotate_left
           ·simp only [Act.put, List.setIfInBounds_toArray, List.set_cons_zero, List.set_cons_succ, i64_w, i32_w]
            rfl
           refine pure_ (i := 10) (N := some 43) (v := undef) (a' := ?_) #[true, true, true, true, true, true, true, true, true, true, true, false, false, false, false] rfl rfl (any_of HT_.out (by kernel_rfl)) (fun _ _ _ h => h) (Or.inr ⟨by rfl, rfl⟩) ?_ ?_
           rotate_left
           ·simp only [Act.put, List.setIfInBounds_toArray, List.set_cons_zero, List.set_cons_succ, i64_w, i32_w]
            rfl
           refine pure_ (i := 11) (N := some 44) (v := undef) (a' := ?_) #[true, true, true, true, true, true, true, true, true, true, true, true, false, false, false] rfl rfl (any_of HT_.out (by kernel_rfl)) (fun _ _ _ h => h) (Or.inr ⟨by rfl, rfl⟩) ?_ ?_
           rotate_left
           ·simp only [Act.put, List.setIfInBounds_toArray, List.set_cons_zero, List.set_cons_succ, i64_w, i32_w]
            rfl
           refine pure_ (i := 12) (N := some 45) (v := undef) (a' := ?_) #[true, true, true, true, true, true, true, true, true, true, true, true, true, false, false] rfl rfl (any_of HT_.out (by kernel_rfl)) (fun _ _ _ h => h) (Or.inr ⟨by rfl, rfl⟩) ?_ ?_
           rotate_left
           ·simp only [Act.put, List.setIfInBounds_toArray, List.set_cons_zero, List.set_cons_succ, i64_w, i32_w]
            rfl
           refine pure_ (i := 13) (N := some 46) (v := undef) (a' := ?_) #[true, true, true, true, true, true, true, true, true, true, true, true, true, true, false] rfl rfl (any_of HT_.out (by kernel_rfl)) (fun _ _ _ h => h) (Or.inr ⟨by rfl, rfl⟩) ?_ ?_
           rotate_left
           ·simp only [Act.put, List.setIfInBounds_toArray, List.set_cons_zero, List.set_cons_succ, i64_w, i32_w]
            rfl
           refine pure_ (i := 14) (N := some 47) (v := ?_) (a' := ?_) #[true, true, true, true, true, true, true, true, true, true, true, true, true, true, true] rfl rfl (any_of HT_.out (by kernel_rfl)) (fun _ _ _ h => h) (Or.inl ⟨by rfl, ?_⟩) ?_ ?_
           rotate_left
           ·intro w'
            go_simp
            with_reducible rfl
           rotate_left
           ·simp only [Act.put, List.setIfInBounds_toArray, List.set_cons_zero, List.set_cons_succ, i64_w, i32_w]
            rfl
           refine done_ (done_of HT_.out (by kernel_rfl)) ?_
           try go_wp2
           go_meet
           case rel => exact ⟨_, (true), (by first | rfl | (simp; done) | (simp [*]; done)), H', ⟨by have := HK1.out; first | omega | exact Nat.le_refl _⟩, ⟨by (with_reducible repeat (first | refine blk_drewN ?_ _ | refine blk_drew ?_ | refine blk_alloc ?_ _)); exact BK460.out⟩, ⟨by (with_reducible repeat (first | refine blk_drewN ?_ _ | refine blk_drew ?_ | refine blk_alloc ?_ _)); exact BK475.out⟩, ⟨by repeat (first | (with_reducible first | exact HB.out | apply below_alloc | apply pw_below_drewN | apply below_drew1 | refine below_set ?_ GE460.out | refine below_set ?_ GE475.out) | exact HB.out)⟩⟩
         case rest =>
          clear HC17
          try clear c1
          try clear p2
          try clear c3
          try clear p6
          try clear c12
          try clear c13
          try clear c13b0
          try clear c13b1
          try clear c14
          try clear c14b0
          try clear c14b1
          try clear c17
          try clear c30
          try clear c30b0
          try clear c30b1
          try clear c31
          try clear c31b0
          try clear c33
          try clear c33b0
          try clear c33b1
          try clear c34
          try clear c34b0
          obtain ⟨kq, x47_16, rfl, HA, HJ16, BK460, BK475, HB⟩ := hcut
          cases kq with
          | zero => exact absurd HA.out (by simp [galleylaw05_WeldBytes.j1])
          | succ kj16 =>
           have H := HA.out
           clear HA
           simp only [galleylaw05_WeldBytes.j1] at H
           by_cases c44 : x47_16 = true
           ·subst c44
            have H1 : (none) = some r := by rw [if_pos rfl] at H; exact H
            clear H
            have H := H1
            clear H1
            exact absurd H (by simp)
           ·replace c44 := Bool.eq_false_iff.mpr c44
            subst c44
            have H1 : (galleylaw05_WeldBytes.l0 kj16 l0 (l0.length : Int) (wrap64 (x19_1 + 1)) t468 t469 t470 t471 t472 t473) = some r := by rw [if_neg (show ¬ (false = true) by decide)] at H; exact H
            clear H
            have H := H1
            clear H1
            have H' := Aside0.mk H
            clear H
            have hnb45 := NB475_460.out
            have hnc45 := NB460_475.out
            have hcz46_0 : wc.cell? ⟨gb475, 0, none⟩ = some (.int .i64 t468) := (blk_cell BK475.out 0).trans rfl
            have hcz46_1 : wc.cell? ⟨gb475, 1, none⟩ = some (.int .i64 t469) := (blk_cell BK475.out 1).trans rfl
            have hcz46_2 : wc.cell? ⟨gb475, 2, none⟩ = some (.int .i64 t470) := (blk_cell BK475.out 2).trans rfl
            have hcz46_3 : wc.cell? ⟨gb475, 3, none⟩ = some (.int .i64 t471) := (blk_cell BK475.out 3).trans rfl
            have hcz46_4 : wc.cell? ⟨gb475, 4, none⟩ = some (.string t472) := (blk_cell BK475.out 4).trans rfl
            have hcz46_5 : wc.cell? ⟨gb475, 5, none⟩ = some (.string t473) := (blk_cell BK475.out 5).trans rfl
            have hfz46_0 := blk_frozen BK475.out 0
            have hfz46_1 := blk_frozen BK475.out 1
            have hfz46_2 := blk_frozen BK475.out 2
            have hfz46_3 := blk_frozen BK475.out 3
            have hfz46_4 := blk_frozen BK475.out 4
            have hfz46_5 := blk_frozen BK475.out 5
            have hcz47_0 : wc.cell? ⟨gb460, 0, none⟩ = some (.int .i64 x461000_1) := (blk_cell BK460.out 0).trans rfl
            have hcz47_1 : wc.cell? ⟨gb460, 1, none⟩ = some (.int .i64 x461001_1) := (blk_cell BK460.out 1).trans rfl
            have hcz47_2 : wc.cell? ⟨gb460, 2, none⟩ = some (.int .i64 x461002_1) := (blk_cell BK460.out 2).trans rfl
            have hcz47_3 : wc.cell? ⟨gb460, 3, none⟩ = some (.int .i64 x461003_1) := (blk_cell BK460.out 3).trans rfl
            have hcz47_4 : wc.cell? ⟨gb460, 4, none⟩ = some (.string x461004_1) := (blk_cell BK460.out 4).trans rfl
            have hcz47_5 : wc.cell? ⟨gb460, 5, none⟩ = some (.string x461005_1) := (blk_cell BK460.out 5).trans rfl
            have hfz47_0 := blk_frozen BK460.out 0
            have hfz47_1 := blk_frozen BK460.out 1
            have hfz47_2 := blk_frozen BK460.out 2
            have hfz47_3 := blk_frozen BK460.out 3
            have hfz47_4 := blk_frozen BK460.out 4
            have hfz47_5 := blk_frozen BK460.out 5
            go_wp2
            go_roundg kj16
            case measure => have := HK1.out; have := HJ16.out; omega
            case rel => exact ⟨(wrap64 (x19_1 + 1)), (t468), (t469), (t470), (t471), (t472), (t473), (by first | rfl | (simp; done) | (simp [*]; done)), H', ⟨by have := HK1.out; have := HJ16.out; omega⟩, ⟨by (with_reducible repeat (first | refine blk_drewN ?_ _ | refine blk_drew ?_ | refine blk_alloc ?_ _)); refine blk_put (cs := #[.int .i64 t468, .int .i64 t469, .int .i64 t470, .int .i64 t471, .string t472, .string x461005_1]) ?_ 5 _ rfl; (with_reducible repeat (first | refine blk_drewN ?_ _ | refine blk_drew ?_ | refine blk_alloc ?_ _)); refine blk_put (cs := #[.int .i64 t468, .int .i64 t469, .int .i64 t470, .int .i64 t471, .string x461004_1, .string x461005_1]) ?_ 4 _ rfl; (with_reducible repeat (first | refine blk_drewN ?_ _ | refine blk_drew ?_ | refine blk_alloc ?_ _)); refine blk_put (cs := #[.int .i64 t468, .int .i64 t469, .int .i64 t470, .int .i64 x461003_1, .string x461004_1, .string x461005_1]) ?_ 3 _ rfl; (with_reducible repeat (first | refine blk_drewN ?_ _ | refine blk_drew ?_ | refine blk_alloc ?_ _)); refine blk_put (cs := #[.int .i64 t468, .int .i64 t469, .int .i64 x461002_1, .int .i64 x461003_1, .string x461004_1, .string x461005_1]) ?_ 2 _ rfl; (with_reducible repeat (first | refine blk_drewN ?_ _ | refine blk_drew ?_ | refine blk_alloc ?_ _)); refine blk_put (cs := #[.int .i64 t468, .int .i64 x461001_1, .int .i64 x461002_1, .int .i64 x461003_1, .string x461004_1, .string x461005_1]) ?_ 1 _ rfl; (with_reducible repeat (first | refine blk_drewN ?_ _ | refine blk_drew ?_ | refine blk_alloc ?_ _)); refine blk_put (cs := #[.int .i64 x461000_1, .int .i64 x461001_1, .int .i64 x461002_1, .int .i64 x461003_1, .string x461004_1, .string x461005_1]) ?_ 0 _ rfl; (with_reducible repeat (first | refine blk_drewN ?_ _ | refine blk_drew ?_ | refine blk_alloc ?_ _)); exact BK460.out⟩, ⟨by repeat (first | (with_reducible first | exact HB.out | apply below_alloc | apply pw_below_drewN | apply below_drew1 | refine below_set ?_ GE460.out | refine below_set ?_ GE475.out) | exact HB.out)⟩⟩
        ·rw [if_neg c14] at H
         exact absurd H (by simp)
       ·rw [if_neg c13] at H
        exact absurd H (by simp)
      ·rw [if_neg c12] at H
       exact absurd H (by simp)
     ·rw [if_neg c11] at H
      have c11b0 : decide (x19_1 < (l0.length : Int)) = false := decide_eq_false c11
      clear c11
      replace H := Option.bind_eq_some_iff.mp H
      obtain ⟨⟨t483, t484, t485, t486, t487, t488⟩, A480, H⟩ := H
      replace H : ((weld_Join.f k1 x461000_1 x461001_1 x461002_1 x461003_1 x461004_1 x461005_1 t483 t484 t485 t486 t487 t488).bind fun bt489 => ((weld_Of.f ([] : List Int)).bind fun bt497 => ((weld_Join.f k1 bt497.1 bt497.2.1 bt497.2.2.1 bt497.2.2.2.1 bt497.2.2.2.2.1 bt497.2.2.2.2.2 x461000_1 x461001_1 x461002_1 x461003_1 x461004_1 x461005_1).bind fun bt503 => (if bt489.2.2.2.2.2.2 = 0 then (if bt503.2.2.2.2.2.2 = 0 then (if ((bt489.1 == x461000_1 && (bt489.2.1 == x461001_1 && (bt489.2.2.1 == x461002_1 && (bt489.2.2.2.1 == x461003_1)))) && (bt489.2.2.2.2.1.toList == x461004_1.toList && (bt489.2.2.2.2.2.1.toList == x461005_1.toList))) = true then (if ((bt503.1 == x461000_1 && (bt503.2.1 == x461001_1 && (bt503.2.2.1 == x461002_1 && (bt503.2.2.2.1 == x461003_1)))) && (bt503.2.2.2.2.1.toList == x461004_1.toList && (bt503.2.2.2.2.2.1.toList == x461005_1.toList))) = true then ((weld_Of.f l0).bind fun bt511 => (some ((x461000_1 == bt511.1 && (x461001_1 == bt511.2.1 && (x461002_1 == bt511.2.2.1 && (x461003_1 == bt511.2.2.2.1)))) && (x461004_1.toList == bt511.2.2.2.2.1.toList && (x461005_1.toList == bt511.2.2.2.2.2.toList))))) else (none)) else (none)) else (none)) else (none))))) = some r := H
      have A48 := Aside0.mk A480
      clear A480
      replace H := Option.bind_eq_some_iff.mp H
      obtain ⟨⟨t489, t490, t491, t492, t493, t494, t495⟩, A490, H⟩ := H
      replace H : ((weld_Of.f ([] : List Int)).bind fun bt497 => ((weld_Join.f k1 bt497.1 bt497.2.1 bt497.2.2.1 bt497.2.2.2.1 bt497.2.2.2.2.1 bt497.2.2.2.2.2 x461000_1 x461001_1 x461002_1 x461003_1 x461004_1 x461005_1).bind fun bt503 => (if t495 = 0 then (if bt503.2.2.2.2.2.2 = 0 then (if ((t489 == x461000_1 && (t490 == x461001_1 && (t491 == x461002_1 && (t492 == x461003_1)))) && (t493.toList == x461004_1.toList && (t494.toList == x461005_1.toList))) = true then (if ((bt503.1 == x461000_1 && (bt503.2.1 == x461001_1 && (bt503.2.2.1 == x461002_1 && (bt503.2.2.2.1 == x461003_1)))) && (bt503.2.2.2.2.1.toList == x461004_1.toList && (bt503.2.2.2.2.2.1.toList == x461005_1.toList))) = true then ((weld_Of.f l0).bind fun bt511 => (some ((x461000_1 == bt511.1 && (x461001_1 == bt511.2.1 && (x461002_1 == bt511.2.2.1 && (x461003_1 == bt511.2.2.2.1)))) && (x461004_1.toList == bt511.2.2.2.2.1.toList && (x461005_1.toList == bt511.2.2.2.2.2.toList))))) else (none)) else (none)) else (none)) else (none)))) = some r := H
      have A49 := Aside0.mk A490
      clear A490
      replace H := Option.bind_eq_some_iff.mp H
      obtain ⟨⟨t497, t498, t499, t500, t501, t502⟩, A500, H⟩ := H
      replace H : ((weld_Join.f k1 t497 t498 t499 t500 t501 t502 x461000_1 x461001_1 x461002_1 x461003_1 x461004_1 x461005_1).bind fun bt503 => (if t495 = 0 then (if bt503.2.2.2.2.2.2 = 0 then (if ((t489 == x461000_1 && (t490 == x461001_1 && (t491 == x461002_1 && (t492 == x461003_1)))) && (t493.toList == x461004_1.toList && (t494.toList == x461005_1.toList))) = true then (if ((bt503.1 == x461000_1 && (bt503.2.1 == x461001_1 && (bt503.2.2.1 == x461002_1 && (bt503.2.2.2.1 == x461003_1)))) && (bt503.2.2.2.2.1.toList == x461004_1.toList && (bt503.2.2.2.2.2.1.toList == x461005_1.toList))) = true then ((weld_Of.f l0).bind fun bt511 => (some ((x461000_1 == bt511.1 && (x461001_1 == bt511.2.1 && (x461002_1 == bt511.2.2.1 && (x461003_1 == bt511.2.2.2.1)))) && (x461004_1.toList == bt511.2.2.2.2.1.toList && (x461005_1.toList == bt511.2.2.2.2.2.toList))))) else (none)) else (none)) else (none)) else (none))) = some r := H
      have A50 := Aside0.mk A500
      clear A500
      replace H := Option.bind_eq_some_iff.mp H
      obtain ⟨⟨t503, t504, t505, t506, t507, t508, t509⟩, A510, H⟩ := H
      replace H : (if t495 = 0 then (if t509 = 0 then (if ((t489 == x461000_1 && (t490 == x461001_1 && (t491 == x461002_1 && (t492 == x461003_1)))) && (t493.toList == x461004_1.toList && (t494.toList == x461005_1.toList))) = true then (if ((t503 == x461000_1 && (t504 == x461001_1 && (t505 == x461002_1 && (t506 == x461003_1)))) && (t507.toList == x461004_1.toList && (t508.toList == x461005_1.toList))) = true then ((weld_Of.f l0).bind fun bt511 => (some ((x461000_1 == bt511.1 && (x461001_1 == bt511.2.1 && (x461002_1 == bt511.2.2.1 && (x461003_1 == bt511.2.2.2.1)))) && (x461004_1.toList == bt511.2.2.2.2.1.toList && (x461005_1.toList == bt511.2.2.2.2.2.toList))))) else (none)) else (none)) else (none)) else (none)) = some r := H
      have A51 := Aside0.mk A510
      clear A510
      by_cases c52 : t495 = 0
      ·rw [if_pos c52] at H
       have c52b0 : (t495 == 0) = true := beq_iff_eq.mpr c52
       have c52b1 : (t495 != 0) = false := bne_eq_false_iff_eq.mpr c52
       clear c52
       by_cases c53 : t509 = 0
       ·rw [if_pos c53] at H
        have c53b0 : (t509 == 0) = true := beq_iff_eq.mpr c53
        have c53b1 : (t509 != 0) = false := bne_eq_false_iff_eq.mpr c53
        clear c53
        by_cases c54 : ((t489 == x461000_1 && (t490 == x461001_1 && (t491 == x461002_1 && (t492 == x461003_1)))) && (t493.toList == x461004_1.toList && (t494.toList == x461005_1.toList))) = true
        ·rw [if_pos c54] at H
         have c54b0 : ((t489 == x461000_1 && (t490 == x461001_1 && (t491 == x461002_1 && (t492 == x461003_1)))) && (t493.toList == x461004_1.toList && (t494.toList == x461005_1.toList))) = true := c54
         clear c54
         by_cases c55 : ((t503 == x461000_1 && (t504 == x461001_1 && (t505 == x461002_1 && (t506 == x461003_1)))) && (t507.toList == x461004_1.toList && (t508.toList == x461005_1.toList))) = true
         ·rw [if_pos c55] at H
          have c55b0 : ((t503 == x461000_1 && (t504 == x461001_1 && (t505 == x461002_1 && (t506 == x461003_1)))) && (t507.toList == x461004_1.toList && (t508.toList == x461005_1.toList))) = true := c55
          clear c55
          replace H := Option.bind_eq_some_iff.mp H
          obtain ⟨⟨t511, t512, t513, t514, t515, t516⟩, A560, H⟩ := H
          replace H : (some ((x461000_1 == t511 && (x461001_1 == t512 && (x461002_1 == t513 && (x461003_1 == t514)))) && (x461004_1.toList == t515.toList && (x461005_1.toList == t516.toList)))) = some r := H
          have A56 := Aside0.mk A560
          clear A560
          obtain rfl := Option.some.inj H
          try go_wp2
          have n0_ := Aside0.mk (blk_drew BK460.out)
          have n1_ := Aside0.mk (below_drew1 HB.out)
          clear BK460
          clear HB
          have BK460 := n0_
          have HB := n1_
          clear n0_ n1_
          refine start_ (n := 9) (S := fun w' => w'.cell? ⟨gb460, 0, none⟩ = some (.int .i64 x461000_1) ∧ w'.cell? ⟨gb460, 1, none⟩ = some (.int .i64 x461001_1) ∧ w'.cell? ⟨gb460, 2, none⟩ = some (.int .i64 x461002_1) ∧ w'.cell? ⟨gb460, 3, none⟩ = some (.int .i64 x461003_1) ∧ w'.cell? ⟨gb460, 4, none⟩ = some (.string x461004_1) ∧ w'.cell? ⟨gb460, 5, none⟩ = some (.string x461005_1)) (ds := []) #[false, false, false, false, false, false, false, false, false] (by kernel_rfl) rfl rfl ⟨(blk_cell BK460.out 0).trans rfl, (blk_cell BK460.out 1).trans rfl, (blk_cell BK460.out 2).trans rfl, (blk_cell BK460.out 3).trans rfl, (blk_cell BK460.out 4).trans rfl, (blk_cell BK460.out 5).trans rfl⟩ (fun hHeld => ?_); refine with_tabW galleylaw05_WeldBytes.tab14 galleylaw05_WeldBytes.bits14 (fun HT_ HW_ => ?_)
          generalize wr.drew = w57 at BK460 HB hHeld ⊢
          refine take_ (i := 0) (N := some 51) (v := ?_) (a' := ?_) #[true, false, false, false, false, false, false, false, false] rfl rfl (take_ofW HT_.out HW_.out (by kernel_rfl)) (fun _ _ _ h => h) (Or.inl ⟨by rfl, ?_⟩) hHeld ?_ ?_
          rotate_left
          ·rintro w' ⟨s0, s1, s2, s3, s4, s5⟩
           go_simp
           with_reducible rfl
          rotate_left
          ·simp only [Act.put, List.setIfInBounds_toArray, List.set_cons_zero, List.set_cons_succ, i64_w, i32_w]
           rfl
          refine join_ (σ := Nat) 2 #[true, true, true, true, true, true, true, false, false] (fun s_ => [(52, .agg #[.int .i64 t483, .int .i64 t484, .int .i64 t485, .int .i64 t486, .string t487, .string t488]), (53, .tuple #[.agg #[.int .i64 t489, .int .i64 t490, .int .i64 t491, .int .i64 t492, .string t493, .string t494], .int .i64 t495]), (7, .pointer (some ⟨s_, 0, none⟩)), (50, .tuple #[.agg #[.int .i64 t489, .int .i64 t490, .int .i64 t491, .int .i64 t492, .string t493, .string t494], .int .i64 t495]), (54, .agg #[.int .i64 t489, .int .i64 t490, .int .i64 t491, .int .i64 t492, .string t493, .string t494]), (55, .int .i64 t495)]) (fun s_ w' => (w'.cell? ⟨gb460, 0, none⟩ = some (.int .i64 x461000_1) ∧ w'.cell? ⟨gb460, 1, none⟩ = some (.int .i64 x461001_1) ∧ w'.cell? ⟨gb460, 2, none⟩ = some (.int .i64 x461002_1) ∧ w'.cell? ⟨gb460, 3, none⟩ = some (.int .i64 x461003_1) ∧ w'.cell? ⟨gb460, 4, none⟩ = some (.string x461004_1) ∧ w'.cell? ⟨gb460, 5, none⟩ = some (.string x461005_1)) ∧ (w'.heap[gb460]? = some (.cells #[.int .i64 x461000_1, .int .i64 x461001_1, .int .i64 x461002_1, .int .i64 x461003_1, .string x461004_1, .string x461005_1] 26 (0, 0))) ∧ (w'.heap[s_]? = some (.cells #[.int .i64 0, .int .i64 0, .int .i64 0, .int .i64 0, .string (⟨#[]⟩ : ByteArray), .string (⟨#[]⟩ : ByteArray)] 26 (0, 0))) ∧ (w.heap.size ≤ s_) ∧ (w.heap.size ≤ s_) ∧ (gb460 ≠ s_) ∧ (s_ ≠ gb460) ∧ (Below w.heap.size w w')) ?_ ?_
          rotate_left
          ·intro hCont
           refine two_ (i := 1) (j := 6) (Ni := some 52) (Nj := some 7) #[true, true, false, false, false, false, false, false, false] #[true, false, false, false, false, false, true, false, false] rfl rfl rfl rfl (two_of HT_.out (by kernel_rfl)) (by decide) (by decide) (fun K hK => ?_) (fun K hK => ?_)
           ·skip
            refine goes_ Tryd.func12 (by kernel_rfl) rfl #[.slice none 0 0] (by rfl) rfl rfl (by (try simp only [List.map_toArray, List.map_cons, List.map_nil]); first | done | rfl | (simp only [List.length_drop, List.length_take]; rfl)) ?_
            refine (weld_Of.calls _ _ ([] : List Int) t483 t484 t485 t486 t487 t488 _ ?side1 ?side2 ?side3 A48.out).mono ?_
            (case side1 => first | (with_reducible exact HG.out) | exact Glob.Globs_below HG.out (by repeat (first | (with_reducible first | exact HB.out | apply below_alloc | apply pw_below_drewN | apply below_drew1 | refine below_set ?_ GE460.out) | exact HB.out)))
            (case side2 => exact Kd.C_nil _ _)
            (case side3 => exact Nat.le_refl _)
            rintro e w58 ⟨rfl, hb⟩
            refine ⟨_, rfl, ?_⟩
            have n0_ := Aside0.mk (blk_below (g := gb460) (o := .cells #[.int .i64 x461000_1, .int .i64 x461001_1, .int .i64 x461002_1, .int .i64 x461003_1, .string x461004_1, .string x461005_1] 26 (0, 0)) (by (with_reducible repeat (first | refine blk_drewN ?_ _ | refine blk_drew ?_ | refine blk_alloc ?_ _)); exact BK460.out) hb)
            have n1_ := Aside0.mk (below_step (by repeat (first | (with_reducible first | exact HB.out | apply below_alloc | apply pw_below_drewN | apply below_drew1 | refine below_set ?_ GE460.out) | exact HB.out)) hb)
            clear BK460
            clear HB
            have BK460 := n0_
            have HB := n1_
            clear n0_ n1_
            (try clear hb)
            (try clear hb2)
            (try clear hk)
            (try clear hi)
            refine hK.out _ _ ⟨(blk_cell BK460.out 0).trans rfl, (blk_cell BK460.out 1).trans rfl, (blk_cell BK460.out 2).trans rfl, (blk_cell BK460.out 3).trans rfl, (blk_cell BK460.out 4).trans rfl, (blk_cell BK460.out 5).trans rfl⟩ (fun hHeld => ?_)
            clear hK K
            refine norm_ (a' := ?_) ?_ ?_
            rotate_left
            ·show Act.put _ (some 52) _ = _
             simp only [Act.put, List.setIfInBounds_toArray, List.set_cons_zero, List.set_cons_succ, i64_w, i32_w]
             rfl
            refine two_ (i := 2) (j := 6) (Ni := some 53) (Nj := some 7) #[true, true, true, false, false, false, false, false, false] #[true, true, false, false, false, false, true, false, false] rfl rfl rfl rfl (two_of HT_.out (by kernel_rfl)) (by decide) (by decide) (fun K hK => ?_) (fun K hK => ?_)
            ·skip
             refine goes_ Tryd.func17 (by kernel_rfl) rfl #[.agg #[.int .i64 x461000_1, .int .i64 x461001_1, .int .i64 x461002_1, .int .i64 x461003_1, .string x461004_1, .string x461005_1], .agg #[.int .i64 t483, .int .i64 t484, .int .i64 t485, .int .i64 t486, .string t487, .string t488]] (by rfl) rfl rfl (by (try simp only [List.map_toArray, List.map_cons, List.map_nil]); first | done | rfl | (simp only [List.length_drop, List.length_take]; rfl)) ?_
             with_reducible refine (weld_Join.calls k1 x461000_1 x461001_1 x461002_1 x461003_1 x461004_1 x461005_1 t483 t484 t485 t486 t487 t488 t489 t490 t491 t492 t493 t494 t495 _ ?side1 A49.out).mono ?_
             (case side1 => first | (with_reducible exact HG.out) | exact Glob.Globs_below HG.out (by repeat (first | (with_reducible first | exact HB.out | apply below_alloc | apply pw_below_drewN | apply below_drew1 | refine below_set ?_ GE460.out) | exact HB.out)))
             rintro e w59 ⟨rfl, hb⟩
             refine ⟨_, rfl, ?_⟩
             have n0_ := Aside0.mk (blk_below (g := gb460) (o := .cells #[.int .i64 x461000_1, .int .i64 x461001_1, .int .i64 x461002_1, .int .i64 x461003_1, .string x461004_1, .string x461005_1] 26 (0, 0)) (by (with_reducible repeat (first | refine blk_drewN ?_ _ | refine blk_drew ?_ | refine blk_alloc ?_ _)); exact BK460.out) hb)
             have n1_ := Aside0.mk (below_step (by repeat (first | (with_reducible first | exact HB.out | apply below_alloc | apply pw_below_drewN | apply below_drew1 | refine below_set ?_ GE460.out) | exact HB.out)) hb)
             clear BK460
             clear HB
             have BK460 := n0_
             have HB := n1_
             clear n0_ n1_
             (try clear hb)
             (try clear hb2)
             (try clear hk)
             (try clear hi)
             refine hK.out _ _ ⟨(blk_cell BK460.out 0).trans rfl, (blk_cell BK460.out 1).trans rfl, (blk_cell BK460.out 2).trans rfl, (blk_cell BK460.out 3).trans rfl, (blk_cell BK460.out 4).trans rfl, (blk_cell BK460.out 5).trans rfl⟩ (fun hHeld => ?_)
             clear hK K
             refine norm_ (a' := ?_) ?_ ?_
             rotate_left
             ·show Act.put _ (some 53) _ = _
              simp only [Act.put, List.setIfInBounds_toArray, List.set_cons_zero, List.set_cons_succ, i64_w, i32_w]
              rfl
             refine pure_ (i := 3) (N := some 50) (v := ?_) (a' := ?_) #[true, true, true, true, false, false, false, false, false] rfl rfl (any_of HT_.out (by kernel_rfl)) (fun _ _ _ h => h) (Or.inl ⟨by rfl, ?_⟩) ?_ ?_
             rotate_left
             ·intro w'
              go_simp
              with_reducible rfl
             rotate_left
             ·simp only [Act.put, List.setIfInBounds_toArray, List.set_cons_zero, List.set_cons_succ, i64_w, i32_w]
              rfl
             refine pure_ (i := 4) (N := some 54) (v := ?_) (a' := ?_) #[true, true, true, true, true, false, false, false, false] rfl rfl (any_of HT_.out (by kernel_rfl)) (fun _ _ _ h => h) (Or.inl ⟨by rfl, ?_⟩) ?_ ?_
             rotate_left
             ·intro w'
              go_simp
              with_reducible rfl
             rotate_left
             ·simp only [Act.put, List.setIfInBounds_toArray, List.set_cons_zero, List.set_cons_succ, i64_w, i32_w]
              rfl
             refine pure_ (i := 5) (N := some 55) (v := ?_) (a' := ?_) #[true, true, true, true, true, true, false, false, false] rfl rfl (any_of HT_.out (by kernel_rfl)) (fun _ _ _ h => h) (Or.inl ⟨by rfl, ?_⟩) ?_ ?_
             rotate_left
             ·intro w'
              go_simp
              with_reducible rfl
             rotate_left
             ·simp only [Act.put, List.setIfInBounds_toArray, List.set_cons_zero, List.set_cons_succ, i64_w, i32_w]
              rfl
             refine one_ (i := 6) (N := some 7) #[true, true, true, true, true, true, true, false, false] rfl rfl (one_of HT_.out (by kernel_rfl)) (by decide) (fun K hK => ?_)
             refine box_step ?hg (N := 7) ?hd (cs := #[.int .i64 0, .int .i64 0, .int .i64 0, .int .i64 0, .string (⟨#[]⟩ : ByteArray), .string (⟨#[]⟩ : ByteArray)]) (t := 26) ?hr ?_; (case hd => rfl); (case hg => rfl); (case hr => first | (go_simp; done) | (go_simp; rfl))
             intro gb496 hg w60 hbox hb
             have n0_ := Aside0.mk (blk_below (g := gb460) (o := .cells #[.int .i64 x461000_1, .int .i64 x461001_1, .int .i64 x461002_1, .int .i64 x461003_1, .string x461004_1, .string x461005_1] 26 (0, 0)) (by (with_reducible repeat (first | refine blk_drewN ?_ _ | refine blk_drew ?_ | refine blk_alloc ?_ _)); exact BK460.out) hb)
             have n1_ := Aside0.mk (below_step (by repeat (first | (with_reducible first | exact HB.out | apply below_alloc | apply pw_below_drewN | apply below_drew1 | refine below_set ?_ GE460.out) | exact HB.out)) hb)
             have n2_ := Aside0.mk (hbox)
             have n3_ := Aside0.mk ((by rw [hg]; exact (below_size (by repeat (first | (with_reducible first | exact HB.out | apply below_alloc | apply pw_below_drewN | apply below_drew1 | refine below_set ?_ GE460.out) | exact HB.out))) : w.heap.size ≤ gb496))
             have n4_ := Aside0.mk ((by rw [hg]; exact (below_size (by repeat (first | (with_reducible first | exact HB.out | apply below_alloc | apply pw_below_drewN | apply below_drew1 | refine below_set ?_ GE460.out) | exact HB.out))) : w.heap.size ≤ gb496))
             have n5_ := Aside0.mk ((by rw [hg]; exact Nat.ne_of_lt (blk_lt (g := gb460) (o := .cells #[.int .i64 x461000_1, .int .i64 x461001_1, .int .i64 x461002_1, .int .i64 x461003_1, .string x461004_1, .string x461005_1] 26 (0, 0)) (by (with_reducible repeat (first | refine blk_drewN ?_ _ | refine blk_drew ?_ | refine blk_alloc ?_ _)); exact BK460.out)) : gb460 ≠ gb496))
             have n6_ := Aside0.mk ((by rw [hg]; exact Nat.ne_of_gt (blk_lt (g := gb460) (o := .cells #[.int .i64 x461000_1, .int .i64 x461001_1, .int .i64 x461002_1, .int .i64 x461003_1, .string x461004_1, .string x461005_1] 26 (0, 0)) (by (with_reducible repeat (first | refine blk_drewN ?_ _ | refine blk_drew ?_ | refine blk_alloc ?_ _)); exact BK460.out)) : gb496 ≠ gb460))
             clear BK460
             clear HB
             have BK460 := n0_
             have HB := n1_
             have BK496 := n2_
             have GW496 := n3_
             have GE496 := n4_
             have NB460_496 := n5_
             have NB496_460 := n6_
             clear n0_ n1_ n2_ n3_ n4_ n5_ n6_
             clear hb hbox hg
             refine hK.out _ _ ⟨(blk_cell BK460.out 0).trans rfl, (blk_cell BK460.out 1).trans rfl, (blk_cell BK460.out 2).trans rfl, (blk_cell BK460.out 3).trans rfl, (blk_cell BK460.out 4).trans rfl, (blk_cell BK460.out 5).trans rfl⟩ (fun hHeld => ?_)
             clear hK K
             refine norm_ (a' := ?_) ?_ ?_
             rotate_left
             ·show Act.put _ (some 7) _ = _
              simp only [Act.put, List.setIfInBounds_toArray, List.set_cons_zero, List.set_cons_succ, i64_w, i32_w]
              rfl
             exact norm_ (by simp only [putAll, Act.put, List.setIfInBounds_toArray, List.set_cons_zero, List.set_cons_succ]) (hCont (gb496) _ ⟨hHeld, (by (with_reducible repeat (first | refine blk_drewN ?_ _ | refine blk_drew ?_ | refine blk_alloc ?_ _)); exact BK460.out), (by (with_reducible repeat (first | refine blk_drewN ?_ _ | refine blk_drew ?_ | refine blk_alloc ?_ _)); exact BK496.out), GW496.out, GE496.out, NB460_496.out, NB496_460.out, (by repeat (first | (with_reducible first | exact HB.out | apply below_alloc | apply pw_below_drewN | apply below_drew1 | refine below_set ?_ GE460.out | refine below_set ?_ GE496.out) | exact HB.out))⟩)
            ·skip
             refine box_step ?hg (N := 7) ?hd (cs := #[.int .i64 0, .int .i64 0, .int .i64 0, .int .i64 0, .string (⟨#[]⟩ : ByteArray), .string (⟨#[]⟩ : ByteArray)]) (t := 26) ?hr ?_; (case hd => rfl); (case hg => rfl); (case hr => first | (go_simp; done) | (go_simp; rfl))
             intro gb496 hg w59 hbox hb
             have n0_ := Aside0.mk (blk_below (g := gb460) (o := .cells #[.int .i64 x461000_1, .int .i64 x461001_1, .int .i64 x461002_1, .int .i64 x461003_1, .string x461004_1, .string x461005_1] 26 (0, 0)) (by (with_reducible repeat (first | refine blk_drewN ?_ _ | refine blk_drew ?_ | refine blk_alloc ?_ _)); exact BK460.out) hb)
             have n1_ := Aside0.mk (below_step (by repeat (first | (with_reducible first | exact HB.out | apply below_alloc | apply pw_below_drewN | apply below_drew1 | refine below_set ?_ GE460.out) | exact HB.out)) hb)
             have n2_ := Aside0.mk (hbox)
             have n3_ := Aside0.mk ((by rw [hg]; exact (below_size (by repeat (first | (with_reducible first | exact HB.out | apply below_alloc | apply pw_below_drewN | apply below_drew1 | refine below_set ?_ GE460.out) | exact HB.out))) : w.heap.size ≤ gb496))
             have n4_ := Aside0.mk ((by rw [hg]; exact (below_size (by repeat (first | (with_reducible first | exact HB.out | apply below_alloc | apply pw_below_drewN | apply below_drew1 | refine below_set ?_ GE460.out) | exact HB.out))) : w.heap.size ≤ gb496))
             have n5_ := Aside0.mk ((by rw [hg]; exact Nat.ne_of_lt (blk_lt (g := gb460) (o := .cells #[.int .i64 x461000_1, .int .i64 x461001_1, .int .i64 x461002_1, .int .i64 x461003_1, .string x461004_1, .string x461005_1] 26 (0, 0)) (by (with_reducible repeat (first | refine blk_drewN ?_ _ | refine blk_drew ?_ | refine blk_alloc ?_ _)); exact BK460.out)) : gb460 ≠ gb496))
             have n6_ := Aside0.mk ((by rw [hg]; exact Nat.ne_of_gt (blk_lt (g := gb460) (o := .cells #[.int .i64 x461000_1, .int .i64 x461001_1, .int .i64 x461002_1, .int .i64 x461003_1, .string x461004_1, .string x461005_1] 26 (0, 0)) (by (with_reducible repeat (first | refine blk_drewN ?_ _ | refine blk_drew ?_ | refine blk_alloc ?_ _)); exact BK460.out)) : gb496 ≠ gb460))
             clear BK460
             clear HB
             have BK460 := n0_
             have HB := n1_
             have BK496 := n2_
             have GW496 := n3_
             have GE496 := n4_
             have NB460_496 := n5_
             have NB496_460 := n6_
             clear n0_ n1_ n2_ n3_ n4_ n5_ n6_
             clear hb hbox hg
             refine hK.out _ _ ⟨(blk_cell BK460.out 0).trans rfl, (blk_cell BK460.out 1).trans rfl, (blk_cell BK460.out 2).trans rfl, (blk_cell BK460.out 3).trans rfl, (blk_cell BK460.out 4).trans rfl, (blk_cell BK460.out 5).trans rfl⟩ (fun hHeld => ?_)
             clear hK K
             refine norm_ (a' := ?_) ?_ ?_
             rotate_left
             ·show Act.put _ (some 7) _ = _
              simp only [Act.put, List.setIfInBounds_toArray, List.set_cons_zero, List.set_cons_succ, i64_w, i32_w]
              rfl
             refine one_ (i := 2) (N := some 53) #[true, true, true, false, false, false, true, false, false] rfl rfl (one_of HT_.out (by kernel_rfl)) (by decide) (fun K hK => ?_)
             refine goes_ Tryd.func17 (by kernel_rfl) rfl #[.agg #[.int .i64 x461000_1, .int .i64 x461001_1, .int .i64 x461002_1, .int .i64 x461003_1, .string x461004_1, .string x461005_1], .agg #[.int .i64 t483, .int .i64 t484, .int .i64 t485, .int .i64 t486, .string t487, .string t488]] (by rfl) rfl rfl (by (try simp only [List.map_toArray, List.map_cons, List.map_nil]); first | done | rfl | (simp only [List.length_drop, List.length_take]; rfl)) ?_
             with_reducible refine (weld_Join.calls k1 x461000_1 x461001_1 x461002_1 x461003_1 x461004_1 x461005_1 t483 t484 t485 t486 t487 t488 t489 t490 t491 t492 t493 t494 t495 _ ?side1 A49.out).mono ?_
             (case side1 => first | (with_reducible exact HG.out) | exact Glob.Globs_below HG.out (by repeat (first | (with_reducible first | exact HB.out | apply below_alloc | apply pw_below_drewN | apply below_drew1 | refine below_set ?_ GE460.out | refine below_set ?_ GE496.out) | exact HB.out)))
             rintro e w60 ⟨rfl, hb⟩
             refine ⟨_, rfl, ?_⟩
             have n0_ := Aside0.mk (blk_below (g := gb460) (o := .cells #[.int .i64 x461000_1, .int .i64 x461001_1, .int .i64 x461002_1, .int .i64 x461003_1, .string x461004_1, .string x461005_1] 26 (0, 0)) (by (with_reducible repeat (first | refine blk_drewN ?_ _ | refine blk_drew ?_ | refine blk_alloc ?_ _)); exact BK460.out) hb)
             have n1_ := Aside0.mk (blk_below (g := gb496) (o := .cells #[.int .i64 0, .int .i64 0, .int .i64 0, .int .i64 0, .string (⟨#[]⟩ : ByteArray), .string (⟨#[]⟩ : ByteArray)] 26 (0, 0)) (by (with_reducible repeat (first | refine blk_drewN ?_ _ | refine blk_drew ?_ | refine blk_alloc ?_ _)); exact BK496.out) hb)
             have n2_ := Aside0.mk (below_step (by repeat (first | (with_reducible first | exact HB.out | apply below_alloc | apply pw_below_drewN | apply below_drew1 | refine below_set ?_ GE460.out | refine below_set ?_ GE496.out) | exact HB.out)) hb)
             clear BK460
             clear BK496
             clear HB
             have BK460 := n0_
             have BK496 := n1_
             have HB := n2_
             clear n0_ n1_ n2_
             (try clear hb)
             (try clear hb2)
             (try clear hk)
             (try clear hi)
             refine hK.out _ _ ⟨(blk_cell BK460.out 0).trans rfl, (blk_cell BK460.out 1).trans rfl, (blk_cell BK460.out 2).trans rfl, (blk_cell BK460.out 3).trans rfl, (blk_cell BK460.out 4).trans rfl, (blk_cell BK460.out 5).trans rfl⟩ (fun hHeld => ?_)
             clear hK K
             refine norm_ (a' := ?_) ?_ ?_
             rotate_left
             ·show Act.put _ (some 53) _ = _
              simp only [Act.put, List.setIfInBounds_toArray, List.set_cons_zero, List.set_cons_succ, i64_w, i32_w]
              rfl
             refine pure_ (i := 3) (N := some 50) (v := ?_) (a' := ?_) #[true, true, true, true, false, false, true, false, false] rfl rfl (any_of HT_.out (by kernel_rfl)) (fun _ _ _ h => h) (Or.inl ⟨by rfl, ?_⟩) ?_ ?_
             rotate_left
             ·intro w'
              go_simp
              with_reducible rfl
             rotate_left
             ·simp only [Act.put, List.setIfInBounds_toArray, List.set_cons_zero, List.set_cons_succ, i64_w, i32_w]
              rfl
             refine pure_ (i := 4) (N := some 54) (v := ?_) (a' := ?_) #[true, true, true, true, true, false, true, false, false] rfl rfl (any_of HT_.out (by kernel_rfl)) (fun _ _ _ h => h) (Or.inl ⟨by rfl, ?_⟩) ?_ ?_
             rotate_left
             ·intro w'
              go_simp
              with_reducible rfl
             rotate_left
             ·simp only [Act.put, List.setIfInBounds_toArray, List.set_cons_zero, List.set_cons_succ, i64_w, i32_w]
              rfl
             refine pure_ (i := 5) (N := some 55) (v := ?_) (a' := ?_) #[true, true, true, true, true, true, true, false, false] rfl rfl (any_of HT_.out (by kernel_rfl)) (fun _ _ _ h => h) (Or.inl ⟨by rfl, ?_⟩) ?_ ?_
             rotate_left
             ·intro w'
              go_simp
              with_reducible rfl
             rotate_left
             ·simp only [Act.put, List.setIfInBounds_toArray, List.set_cons_zero, List.set_cons_succ, i64_w, i32_w]
              rfl
             exact norm_ (by simp only [putAll, Act.put, List.setIfInBounds_toArray, List.set_cons_zero, List.set_cons_succ]) (hCont (gb496) _ ⟨hHeld, (by (with_reducible repeat (first | refine blk_drewN ?_ _ | refine blk_drew ?_ | refine blk_alloc ?_ _)); exact BK460.out), (by (with_reducible repeat (first | refine blk_drewN ?_ _ | refine blk_drew ?_ | refine blk_alloc ?_ _)); exact BK496.out), GW496.out, GE496.out, NB460_496.out, NB496_460.out, (by repeat (first | (with_reducible first | exact HB.out | apply below_alloc | apply pw_below_drewN | apply below_drew1 | refine below_set ?_ GE460.out | refine below_set ?_ GE496.out) | exact HB.out))⟩)
           ·skip
            refine box_step ?hg (N := 7) ?hd (cs := #[.int .i64 0, .int .i64 0, .int .i64 0, .int .i64 0, .string (⟨#[]⟩ : ByteArray), .string (⟨#[]⟩ : ByteArray)]) (t := 26) ?hr ?_; (case hd => rfl); (case hg => rfl); (case hr => first | (go_simp; done) | (go_simp; rfl))
            intro gb496 hg w58 hbox hb
            have n0_ := Aside0.mk (blk_below (g := gb460) (o := .cells #[.int .i64 x461000_1, .int .i64 x461001_1, .int .i64 x461002_1, .int .i64 x461003_1, .string x461004_1, .string x461005_1] 26 (0, 0)) (by (with_reducible repeat (first | refine blk_drewN ?_ _ | refine blk_drew ?_ | refine blk_alloc ?_ _)); exact BK460.out) hb)
            have n1_ := Aside0.mk (below_step (by repeat (first | (with_reducible first | exact HB.out | apply below_alloc | apply pw_below_drewN | apply below_drew1 | refine below_set ?_ GE460.out) | exact HB.out)) hb)
            have n2_ := Aside0.mk (hbox)
            have n3_ := Aside0.mk ((by rw [hg]; exact (below_size (by repeat (first | (with_reducible first | exact HB.out | apply below_alloc | apply pw_below_drewN | apply below_drew1 | refine below_set ?_ GE460.out) | exact HB.out))) : w.heap.size ≤ gb496))
            have n4_ := Aside0.mk ((by rw [hg]; exact (below_size (by repeat (first | (with_reducible first | exact HB.out | apply below_alloc | apply pw_below_drewN | apply below_drew1 | refine below_set ?_ GE460.out) | exact HB.out))) : w.heap.size ≤ gb496))
            have n5_ := Aside0.mk ((by rw [hg]; exact Nat.ne_of_lt (blk_lt (g := gb460) (o := .cells #[.int .i64 x461000_1, .int .i64 x461001_1, .int .i64 x461002_1, .int .i64 x461003_1, .string x461004_1, .string x461005_1] 26 (0, 0)) (by (with_reducible repeat (first | refine blk_drewN ?_ _ | refine blk_drew ?_ | refine blk_alloc ?_ _)); exact BK460.out)) : gb460 ≠ gb496))
            have n6_ := Aside0.mk ((by rw [hg]; exact Nat.ne_of_gt (blk_lt (g := gb460) (o := .cells #[.int .i64 x461000_1, .int .i64 x461001_1, .int .i64 x461002_1, .int .i64 x461003_1, .string x461004_1, .string x461005_1] 26 (0, 0)) (by (with_reducible repeat (first | refine blk_drewN ?_ _ | refine blk_drew ?_ | refine blk_alloc ?_ _)); exact BK460.out)) : gb496 ≠ gb460))
            clear BK460
            clear HB
            have BK460 := n0_
            have HB := n1_
            have BK496 := n2_
            have GW496 := n3_
            have GE496 := n4_
            have NB460_496 := n5_
            have NB496_460 := n6_
            clear n0_ n1_ n2_ n3_ n4_ n5_ n6_
            clear hb hbox hg
            refine hK.out _ _ ⟨(blk_cell BK460.out 0).trans rfl, (blk_cell BK460.out 1).trans rfl, (blk_cell BK460.out 2).trans rfl, (blk_cell BK460.out 3).trans rfl, (blk_cell BK460.out 4).trans rfl, (blk_cell BK460.out 5).trans rfl⟩ (fun hHeld => ?_)
            clear hK K
            refine norm_ (a' := ?_) ?_ ?_
            rotate_left
            ·show Act.put _ (some 7) _ = _
             simp only [Act.put, List.setIfInBounds_toArray, List.set_cons_zero, List.set_cons_succ, i64_w, i32_w]
             rfl
            refine one_ (i := 1) (N := some 52) #[true, true, false, false, false, false, true, false, false] rfl rfl (one_of HT_.out (by kernel_rfl)) (by decide) (fun K hK => ?_)
            refine goes_ Tryd.func12 (by kernel_rfl) rfl #[.slice none 0 0] (by rfl) rfl rfl (by (try simp only [List.map_toArray, List.map_cons, List.map_nil]); first | done | rfl | (simp only [List.length_drop, List.length_take]; rfl)) ?_
            refine (weld_Of.calls _ _ ([] : List Int) t483 t484 t485 t486 t487 t488 _ ?side1 ?side2 ?side3 A48.out).mono ?_
            (case side1 => first | (with_reducible exact HG.out) | exact Glob.Globs_below HG.out (by repeat (first | (with_reducible first | exact HB.out | apply below_alloc | apply pw_below_drewN | apply below_drew1 | refine below_set ?_ GE460.out | refine below_set ?_ GE496.out) | exact HB.out)))
            (case side2 => exact Kd.C_nil _ _)
            (case side3 => exact Nat.le_refl _)
            rintro e w59 ⟨rfl, hb⟩
            refine ⟨_, rfl, ?_⟩
            have n0_ := Aside0.mk (blk_below (g := gb460) (o := .cells #[.int .i64 x461000_1, .int .i64 x461001_1, .int .i64 x461002_1, .int .i64 x461003_1, .string x461004_1, .string x461005_1] 26 (0, 0)) (by (with_reducible repeat (first | refine blk_drewN ?_ _ | refine blk_drew ?_ | refine blk_alloc ?_ _)); exact BK460.out) hb)
            have n1_ := Aside0.mk (blk_below (g := gb496) (o := .cells #[.int .i64 0, .int .i64 0, .int .i64 0, .int .i64 0, .string (⟨#[]⟩ : ByteArray), .string (⟨#[]⟩ : ByteArray)] 26 (0, 0)) (by (with_reducible repeat (first | refine blk_drewN ?_ _ | refine blk_drew ?_ | refine blk_alloc ?_ _)); exact BK496.out) hb)
            have n2_ := Aside0.mk (below_step (by repeat (first | (with_reducible first | exact HB.out | apply below_alloc | apply pw_below_drewN | apply below_drew1 | refine below_set ?_ GE460.out | refine below_set ?_ GE496.out) | exact HB.out)) hb)
            clear BK460
            clear BK496
            clear HB
            have BK460 := n0_
            have BK496 := n1_
            have HB := n2_
            clear n0_ n1_ n2_
            (try clear hb)
            (try clear hb2)
            (try clear hk)
            (try clear hi)
            refine hK.out _ _ ⟨(blk_cell BK460.out 0).trans rfl, (blk_cell BK460.out 1).trans rfl, (blk_cell BK460.out 2).trans rfl, (blk_cell BK460.out 3).trans rfl, (blk_cell BK460.out 4).trans rfl, (blk_cell BK460.out 5).trans rfl⟩ (fun hHeld => ?_)
            clear hK K
            refine norm_ (a' := ?_) ?_ ?_
            rotate_left
            ·show Act.put _ (some 52) _ = _
             simp only [Act.put, List.setIfInBounds_toArray, List.set_cons_zero, List.set_cons_succ, i64_w, i32_w]
             rfl
            refine one_ (i := 2) (N := some 53) #[true, true, true, false, false, false, true, false, false] rfl rfl (one_of HT_.out (by kernel_rfl)) (by decide) (fun K hK => ?_)
            refine goes_ Tryd.func17 (by kernel_rfl) rfl #[.agg #[.int .i64 x461000_1, .int .i64 x461001_1, .int .i64 x461002_1, .int .i64 x461003_1, .string x461004_1, .string x461005_1], .agg #[.int .i64 t483, .int .i64 t484, .int .i64 t485, .int .i64 t486, .string t487, .string t488]] (by rfl) rfl rfl (by (try simp only [List.map_toArray, List.map_cons, List.map_nil]); first | done | rfl | (simp only [List.length_drop, List.length_take]; rfl)) ?_
            with_reducible refine (weld_Join.calls k1 x461000_1 x461001_1 x461002_1 x461003_1 x461004_1 x461005_1 t483 t484 t485 t486 t487 t488 t489 t490 t491 t492 t493 t494 t495 _ ?side1 A49.out).mono ?_
            (case side1 => first | (with_reducible exact HG.out) | exact Glob.Globs_below HG.out (by repeat (first | (with_reducible first | exact HB.out | apply below_alloc | apply pw_below_drewN | apply below_drew1 | refine below_set ?_ GE460.out | refine below_set ?_ GE496.out) | exact HB.out)))
            rintro e w60 ⟨rfl, hb⟩
            refine ⟨_, rfl, ?_⟩
            have n0_ := Aside0.mk (blk_below (g := gb460) (o := .cells #[.int .i64 x461000_1, .int .i64 x461001_1, .int .i64 x461002_1, .int .i64 x461003_1, .string x461004_1, .string x461005_1] 26 (0, 0)) (by (with_reducible repeat (first | refine blk_drewN ?_ _ | refine blk_drew ?_ | refine blk_alloc ?_ _)); exact BK460.out) hb)
            have n1_ := Aside0.mk (blk_below (g := gb496) (o := .cells #[.int .i64 0, .int .i64 0, .int .i64 0, .int .i64 0, .string (⟨#[]⟩ : ByteArray), .string (⟨#[]⟩ : ByteArray)] 26 (0, 0)) (by (with_reducible repeat (first | refine blk_drewN ?_ _ | refine blk_drew ?_ | refine blk_alloc ?_ _)); exact BK496.out) hb)
            have n2_ := Aside0.mk (below_step (by repeat (first | (with_reducible first | exact HB.out | apply below_alloc | apply pw_below_drewN | apply below_drew1 | refine below_set ?_ GE460.out | refine below_set ?_ GE496.out) | exact HB.out)) hb)
            clear BK460
            clear BK496
            clear HB
            have BK460 := n0_
            have BK496 := n1_
            have HB := n2_
            clear n0_ n1_ n2_
            (try clear hb)
            (try clear hb2)
            (try clear hk)
            (try clear hi)
            refine hK.out _ _ ⟨(blk_cell BK460.out 0).trans rfl, (blk_cell BK460.out 1).trans rfl, (blk_cell BK460.out 2).trans rfl, (blk_cell BK460.out 3).trans rfl, (blk_cell BK460.out 4).trans rfl, (blk_cell BK460.out 5).trans rfl⟩ (fun hHeld => ?_)
            clear hK K
            refine norm_ (a' := ?_) ?_ ?_
            rotate_left
            ·show Act.put _ (some 53) _ = _
             simp only [Act.put, List.setIfInBounds_toArray, List.set_cons_zero, List.set_cons_succ, i64_w, i32_w]
             rfl
            refine pure_ (i := 3) (N := some 50) (v := ?_) (a' := ?_) #[true, true, true, true, false, false, true, false, false] rfl rfl (any_of HT_.out (by kernel_rfl)) (fun _ _ _ h => h) (Or.inl ⟨by rfl, ?_⟩) ?_ ?_
            rotate_left
            ·intro w'
             go_simp
             with_reducible rfl
            rotate_left
            ·simp only [Act.put, List.setIfInBounds_toArray, List.set_cons_zero, List.set_cons_succ, i64_w, i32_w]
             rfl
            refine pure_ (i := 4) (N := some 54) (v := ?_) (a' := ?_) #[true, true, true, true, true, false, true, false, false] rfl rfl (any_of HT_.out (by kernel_rfl)) (fun _ _ _ h => h) (Or.inl ⟨by rfl, ?_⟩) ?_ ?_
            rotate_left
            ·intro w'
             go_simp
             with_reducible rfl
            rotate_left
            ·simp only [Act.put, List.setIfInBounds_toArray, List.set_cons_zero, List.set_cons_succ, i64_w, i32_w]
             rfl
            refine pure_ (i := 5) (N := some 55) (v := ?_) (a' := ?_) #[true, true, true, true, true, true, true, false, false] rfl rfl (any_of HT_.out (by kernel_rfl)) (fun _ _ _ h => h) (Or.inl ⟨by rfl, ?_⟩) ?_ ?_
            rotate_left
            ·intro w'
             go_simp
             with_reducible rfl
            rotate_left
            ·simp only [Act.put, List.setIfInBounds_toArray, List.set_cons_zero, List.set_cons_succ, i64_w, i32_w]
             rfl
            exact norm_ (by simp only [putAll, Act.put, List.setIfInBounds_toArray, List.set_cons_zero, List.set_cons_succ]) (hCont (gb496) _ ⟨hHeld, (by (with_reducible repeat (first | refine blk_drewN ?_ _ | refine blk_drew ?_ | refine blk_alloc ?_ _)); exact BK460.out), (by (with_reducible repeat (first | refine blk_drewN ?_ _ | refine blk_drew ?_ | refine blk_alloc ?_ _)); exact BK496.out), GW496.out, GE496.out, NB460_496.out, NB496_460.out, (by repeat (first | (with_reducible first | exact HB.out | apply below_alloc | apply pw_below_drewN | apply below_drew1 | refine below_set ?_ GE460.out | refine below_set ?_ GE496.out) | exact HB.out))⟩)
          rintro gb496 w61 ⟨hS_, h0_, h1_, h2_, h3_, h4_, h5_, h6_⟩
          have n0_ : Aside0 (w61.heap[gb460]? = some (.cells #[.int .i64 x461000_1, .int .i64 x461001_1, .int .i64 x461002_1, .int .i64 x461003_1, .string x461004_1, .string x461005_1] 26 (0, 0))) := ⟨h0_⟩
          have n1_ : Aside0 (w61.heap[gb496]? = some (.cells #[.int .i64 0, .int .i64 0, .int .i64 0, .int .i64 0, .string (⟨#[]⟩ : ByteArray), .string (⟨#[]⟩ : ByteArray)] 26 (0, 0))) := ⟨h1_⟩
          have n2_ : Aside0 (w.heap.size ≤ gb496) := ⟨h2_⟩
          have n3_ : Aside0 (w.heap.size ≤ gb496) := ⟨h3_⟩
          have n4_ : Aside0 (gb460 ≠ gb496) := ⟨h4_⟩
          have n5_ : Aside0 (gb496 ≠ gb460) := ⟨h5_⟩
          have n6_ : Aside0 (Below w.heap.size w w61) := ⟨h6_⟩
          clear BK460
          clear HB
          clear h0_ h1_ h2_ h3_ h4_ h5_ h6_
          have BK460 := n0_
          have BK496 := n1_
          have GW496 := n2_
          have GE496 := n3_
          have NB460_496 := n4_
          have NB496_460 := n5_
          have HB := n6_
          clear n0_ n1_ n2_ n3_ n4_ n5_ n6_
          have hHeld : w61.cell? ⟨gb460, 0, none⟩ = some (.int .i64 x461000_1) ∧ w61.cell? ⟨gb460, 1, none⟩ = some (.int .i64 x461001_1) ∧ w61.cell? ⟨gb460, 2, none⟩ = some (.int .i64 x461002_1) ∧ w61.cell? ⟨gb460, 3, none⟩ = some (.int .i64 x461003_1) ∧ w61.cell? ⟨gb460, 4, none⟩ = some (.string x461004_1) ∧ w61.cell? ⟨gb460, 5, none⟩ = some (.string x461005_1) := hS_
          refine norm_ (a' := ?_) ?_ ?_
          rotate_left
          ·simp only [putAll, Act.put, List.setIfInBounds_toArray, List.set_cons_zero, List.set_cons_succ]
           rfl
          refine one_ (i := 7) (N := none) #[true, true, true, true, true, true, true, true, false] rfl rfl (one_of HT_.out (by kernel_rfl)) (by decide) (fun K hK => ?_)
          have hs62 : w61.cell? ⟨gb496, 0, none⟩ = some (.int .i64 0) := (blk_cell BK496.out 0).trans rfl
          have hfs62 := blk_frozen BK496.out 0
          have hns62_0 := NB460_496.out
          have hms62_0 := NB496_460.out
          have hs63 : w61.cell? ⟨gb496, 1, none⟩ = some (.int .i64 0) := (blk_cell BK496.out 1).trans rfl
          have hfs63 := blk_frozen BK496.out 1
          have hns63_0 := NB460_496.out
          have hms63_0 := NB496_460.out
          have hs64 : w61.cell? ⟨gb496, 2, none⟩ = some (.int .i64 0) := (blk_cell BK496.out 2).trans rfl
          have hfs64 := blk_frozen BK496.out 2
          have hns64_0 := NB460_496.out
          have hms64_0 := NB496_460.out
          have hs65 : w61.cell? ⟨gb496, 3, none⟩ = some (.int .i64 0) := (blk_cell BK496.out 3).trans rfl
          have hfs65 := blk_frozen BK496.out 3
          have hns65_0 := NB460_496.out
          have hms65_0 := NB496_460.out
          have hs66 : w61.cell? ⟨gb496, 4, none⟩ = some (.string (⟨#[]⟩ : ByteArray)) := (blk_cell BK496.out 4).trans rfl
          have hfs66 := blk_frozen BK496.out 4
          have hns66_0 := NB460_496.out
          have hms66_0 := NB496_460.out
          have hs67 : w61.cell? ⟨gb496, 5, none⟩ = some (.string (⟨#[]⟩ : ByteArray)) := (blk_cell BK496.out 5).trans rfl
          have hfs67 := blk_frozen BK496.out 5
          have hns67_0 := NB460_496.out
          have hms67_0 := NB496_460.out
          refine skip_ (w1 := ?_) (by rfl) rfl ?_ ?_
          rotate_left
          ·go_simp
           rfl
          refine hK.out _ _ ⟨((cell_far (p := ⟨gb496, _, none⟩) NB460_496.out _).trans (((cell_far (p := ⟨gb496, _, none⟩) NB460_496.out _).trans (((cell_far (p := ⟨gb496, _, none⟩) NB460_496.out _).trans (((cell_far (p := ⟨gb496, _, none⟩) NB460_496.out _).trans (((cell_far (p := ⟨gb496, _, none⟩) NB460_496.out _).trans (((cell_far (p := ⟨gb496, _, none⟩) NB460_496.out _).trans (hHeld.1)))))))))))), ((cell_far (p := ⟨gb496, _, none⟩) NB460_496.out _).trans (((cell_far (p := ⟨gb496, _, none⟩) NB460_496.out _).trans (((cell_far (p := ⟨gb496, _, none⟩) NB460_496.out _).trans (((cell_far (p := ⟨gb496, _, none⟩) NB460_496.out _).trans (((cell_far (p := ⟨gb496, _, none⟩) NB460_496.out _).trans (((cell_far (p := ⟨gb496, _, none⟩) NB460_496.out _).trans (hHeld.2.1)))))))))))), ((cell_far (p := ⟨gb496, _, none⟩) NB460_496.out _).trans (((cell_far (p := ⟨gb496, _, none⟩) NB460_496.out _).trans (((cell_far (p := ⟨gb496, _, none⟩) NB460_496.out _).trans (((cell_far (p := ⟨gb496, _, none⟩) NB460_496.out _).trans (((cell_far (p := ⟨gb496, _, none⟩) NB460_496.out _).trans (((cell_far (p := ⟨gb496, _, none⟩) NB460_496.out _).trans (hHeld.2.2.1)))))))))))), ((cell_far (p := ⟨gb496, _, none⟩) NB460_496.out _).trans (((cell_far (p := ⟨gb496, _, none⟩) NB460_496.out _).trans (((cell_far (p := ⟨gb496, _, none⟩) NB460_496.out _).trans (((cell_far (p := ⟨gb496, _, none⟩) NB460_496.out _).trans (((cell_far (p := ⟨gb496, _, none⟩) NB460_496.out _).trans (((cell_far (p := ⟨gb496, _, none⟩) NB460_496.out _).trans (hHeld.2.2.2.1)))))))))))), ((cell_far (p := ⟨gb496, _, none⟩) NB460_496.out _).trans (((cell_far (p := ⟨gb496, _, none⟩) NB460_496.out _).trans (((cell_far (p := ⟨gb496, _, none⟩) NB460_496.out _).trans (((cell_far (p := ⟨gb496, _, none⟩) NB460_496.out _).trans (((cell_far (p := ⟨gb496, _, none⟩) NB460_496.out _).trans (((cell_far (p := ⟨gb496, _, none⟩) NB460_496.out _).trans (hHeld.2.2.2.2.1)))))))))))), ((cell_far (p := ⟨gb496, _, none⟩) NB460_496.out _).trans (((cell_far (p := ⟨gb496, _, none⟩) NB460_496.out _).trans (((cell_far (p := ⟨gb496, _, none⟩) NB460_496.out _).trans (((cell_far (p := ⟨gb496, _, none⟩) NB460_496.out _).trans (((cell_far (p := ⟨gb496, _, none⟩) NB460_496.out _).trans (((cell_far (p := ⟨gb496, _, none⟩) NB460_496.out _).trans (hHeld.2.2.2.2.2))))))))))))⟩ (fun hHeld => ?_)
          clear hK K
          refine pure_ (i := 8) (N := some 8) (v := ?_) (a' := ?_) #[true, true, true, true, true, true, true, true, true] rfl rfl (any_of HT_.out (by kernel_rfl)) (fun _ _ _ h => h) (Or.inl ⟨by rfl, ?_⟩) ?_ ?_
          rotate_left
          ·intro w'
           go_simp
           with_reducible rfl
          rotate_left
          ·simp only [Act.put, List.setIfInBounds_toArray, List.set_cons_zero, List.set_cons_succ, i64_w, i32_w]
           rfl
          refine done_ (done_of HT_.out (by kernel_rfl)) ?_
          try go_wp2
          have n0_ : Aside0 (((((((w61.setCell ⟨gb496, 0, none⟩ (.int .i64 t489)).setCell ⟨gb496, 1, none⟩ (.int .i64 t490)).setCell ⟨gb496, 2, none⟩ (.int .i64 t491)).setCell ⟨gb496, 3, none⟩ (.int .i64 t492)).setCell ⟨gb496, 4, none⟩ (.string t493)).setCell ⟨gb496, 5, none⟩ (.string t494)).heap[gb460]? = some (.cells #[.int .i64 x461000_1, .int .i64 x461001_1, .int .i64 x461002_1, .int .i64 x461003_1, .string x461004_1, .string x461005_1] 26 (0, 0))) := ⟨by (with_reducible repeat (first | refine blk_drewN ?_ _ | refine blk_drew ?_ | refine blk_alloc ?_ _)); refine blk_far ?_ NB460_496.out _; (with_reducible repeat (first | refine blk_drewN ?_ _ | refine blk_drew ?_ | refine blk_alloc ?_ _)); refine blk_far ?_ NB460_496.out _; (with_reducible repeat (first | refine blk_drewN ?_ _ | refine blk_drew ?_ | refine blk_alloc ?_ _)); refine blk_far ?_ NB460_496.out _; (with_reducible repeat (first | refine blk_drewN ?_ _ | refine blk_drew ?_ | refine blk_alloc ?_ _)); refine blk_far ?_ NB460_496.out _; (with_reducible repeat (first | refine blk_drewN ?_ _ | refine blk_drew ?_ | refine blk_alloc ?_ _)); refine blk_far ?_ NB460_496.out _; (with_reducible repeat (first | refine blk_drewN ?_ _ | refine blk_drew ?_ | refine blk_alloc ?_ _)); refine blk_far ?_ NB460_496.out _; (with_reducible repeat (first | refine blk_drewN ?_ _ | refine blk_drew ?_ | refine blk_alloc ?_ _)); exact BK460.out⟩
          have n1_ : Aside0 (((((((w61.setCell ⟨gb496, 0, none⟩ (.int .i64 t489)).setCell ⟨gb496, 1, none⟩ (.int .i64 t490)).setCell ⟨gb496, 2, none⟩ (.int .i64 t491)).setCell ⟨gb496, 3, none⟩ (.int .i64 t492)).setCell ⟨gb496, 4, none⟩ (.string t493)).setCell ⟨gb496, 5, none⟩ (.string t494)).heap[gb496]? = some (.cells #[.int .i64 t489, .int .i64 t490, .int .i64 t491, .int .i64 t492, .string t493, .string t494] 26 (0, 0))) := ⟨by (with_reducible repeat (first | refine blk_drewN ?_ _ | refine blk_drew ?_ | refine blk_alloc ?_ _)); refine blk_put (cs := #[.int .i64 t489, .int .i64 t490, .int .i64 t491, .int .i64 t492, .string t493, .string (⟨#[]⟩ : ByteArray)]) ?_ 5 _ rfl; (with_reducible repeat (first | refine blk_drewN ?_ _ | refine blk_drew ?_ | refine blk_alloc ?_ _)); refine blk_put (cs := #[.int .i64 t489, .int .i64 t490, .int .i64 t491, .int .i64 t492, .string (⟨#[]⟩ : ByteArray), .string (⟨#[]⟩ : ByteArray)]) ?_ 4 _ rfl; (with_reducible repeat (first | refine blk_drewN ?_ _ | refine blk_drew ?_ | refine blk_alloc ?_ _)); refine blk_put (cs := #[.int .i64 t489, .int .i64 t490, .int .i64 t491, .int .i64 0, .string (⟨#[]⟩ : ByteArray), .string (⟨#[]⟩ : ByteArray)]) ?_ 3 _ rfl; (with_reducible repeat (first | refine blk_drewN ?_ _ | refine blk_drew ?_ | refine blk_alloc ?_ _)); refine blk_put (cs := #[.int .i64 t489, .int .i64 t490, .int .i64 0, .int .i64 0, .string (⟨#[]⟩ : ByteArray), .string (⟨#[]⟩ : ByteArray)]) ?_ 2 _ rfl; (with_reducible repeat (first | refine blk_drewN ?_ _ | refine blk_drew ?_ | refine blk_alloc ?_ _)); refine blk_put (cs := #[.int .i64 t489, .int .i64 0, .int .i64 0, .int .i64 0, .string (⟨#[]⟩ : ByteArray), .string (⟨#[]⟩ : ByteArray)]) ?_ 1 _ rfl; (with_reducible repeat (first | refine blk_drewN ?_ _ | refine blk_drew ?_ | refine blk_alloc ?_ _)); refine blk_put (cs := #[.int .i64 0, .int .i64 0, .int .i64 0, .int .i64 0, .string (⟨#[]⟩ : ByteArray), .string (⟨#[]⟩ : ByteArray)]) ?_ 0 _ rfl; (with_reducible repeat (first | refine blk_drewN ?_ _ | refine blk_drew ?_ | refine blk_alloc ?_ _)); exact BK496.out⟩
          have n2_ : Aside0 (Below w.heap.size w ((((((w61.setCell ⟨gb496, 0, none⟩ (.int .i64 t489)).setCell ⟨gb496, 1, none⟩ (.int .i64 t490)).setCell ⟨gb496, 2, none⟩ (.int .i64 t491)).setCell ⟨gb496, 3, none⟩ (.int .i64 t492)).setCell ⟨gb496, 4, none⟩ (.string t493)).setCell ⟨gb496, 5, none⟩ (.string t494))) := ⟨by repeat (first | (with_reducible first | exact HB.out | apply below_alloc | apply pw_below_drewN | apply below_drew1 | refine below_set ?_ GE460.out | refine below_set ?_ GE496.out) | exact HB.out)⟩
          (try clear BK460)
          (try clear BK496)
          (try clear HB)
          generalize ((((((w61.setCell ⟨gb496, 0, none⟩ (.int .i64 t489)).setCell ⟨gb496, 1, none⟩ (.int .i64 t490)).setCell ⟨gb496, 2, none⟩ (.int .i64 t491)).setCell ⟨gb496, 3, none⟩ (.int .i64 t492)).setCell ⟨gb496, 4, none⟩ (.string t493)).setCell ⟨gb496, 5, none⟩ (.string t494)) = w68 at n0_ n1_ n2_ ⊢
          have BK460 := n0_
          have BK496 := n1_
          have HB := n2_
          clear n0_ n1_ n2_
          have n0_ := Aside0.mk (blk_drew BK460.out)
          have n1_ := Aside0.mk (blk_drew BK496.out)
          have n2_ := Aside0.mk (below_drew1 HB.out)
          clear BK460
          clear BK496
          clear HB
          have BK460 := n0_
          have BK496 := n1_
          have HB := n2_
          clear n0_ n1_ n2_
          refine start_ (n := 9) (S := fun w' => w'.cell? ⟨gb460, 0, none⟩ = some (.int .i64 x461000_1) ∧ w'.cell? ⟨gb460, 1, none⟩ = some (.int .i64 x461001_1) ∧ w'.cell? ⟨gb460, 2, none⟩ = some (.int .i64 x461002_1) ∧ w'.cell? ⟨gb460, 3, none⟩ = some (.int .i64 x461003_1) ∧ w'.cell? ⟨gb460, 4, none⟩ = some (.string x461004_1) ∧ w'.cell? ⟨gb460, 5, none⟩ = some (.string x461005_1)) (ds := []) #[false, false, false, false, false, false, false, false, false] (by kernel_rfl) rfl rfl ⟨(blk_cell BK460.out 0).trans rfl, (blk_cell BK460.out 1).trans rfl, (blk_cell BK460.out 2).trans rfl, (blk_cell BK460.out 3).trans rfl, (blk_cell BK460.out 4).trans rfl, (blk_cell BK460.out 5).trans rfl⟩ (fun hHeld => ?_); refine with_tabW galleylaw05_WeldBytes.tab15 galleylaw05_WeldBytes.bits15 (fun HT_ HW_ => ?_)
          generalize w68.drew = w69 at BK460 BK496 HB hHeld ⊢
          refine take_ (i := 1) (N := some 58) (v := ?_) (a' := ?_) #[false, true, false, false, false, false, false, false, false] rfl rfl (take_ofW HT_.out HW_.out (by kernel_rfl)) (fun _ _ _ h => h) (Or.inl ⟨by rfl, ?_⟩) hHeld ?_ ?_
          rotate_left
          ·rintro w' ⟨s0, s1, s2, s3, s4, s5⟩
           go_simp
           with_reducible rfl
          rotate_left
          ·simp only [Act.put, List.setIfInBounds_toArray, List.set_cons_zero, List.set_cons_succ, i64_w, i32_w]
           rfl
          refine join_ (σ := Nat) 2 #[true, true, true, true, true, true, true, false, false] (fun s_ => [(57, .agg #[.int .i64 t497, .int .i64 t498, .int .i64 t499, .int .i64 t500, .string t501, .string t502]), (59, .tuple #[.agg #[.int .i64 t503, .int .i64 t504, .int .i64 t505, .int .i64 t506, .string t507, .string t508], .int .i64 t509]), (9, .pointer (some ⟨s_, 0, none⟩)), (56, .tuple #[.agg #[.int .i64 t503, .int .i64 t504, .int .i64 t505, .int .i64 t506, .string t507, .string t508], .int .i64 t509]), (60, .agg #[.int .i64 t503, .int .i64 t504, .int .i64 t505, .int .i64 t506, .string t507, .string t508]), (61, .int .i64 t509)]) (fun s_ w' => (w'.cell? ⟨gb460, 0, none⟩ = some (.int .i64 x461000_1) ∧ w'.cell? ⟨gb460, 1, none⟩ = some (.int .i64 x461001_1) ∧ w'.cell? ⟨gb460, 2, none⟩ = some (.int .i64 x461002_1) ∧ w'.cell? ⟨gb460, 3, none⟩ = some (.int .i64 x461003_1) ∧ w'.cell? ⟨gb460, 4, none⟩ = some (.string x461004_1) ∧ w'.cell? ⟨gb460, 5, none⟩ = some (.string x461005_1)) ∧ (w'.heap[gb460]? = some (.cells #[.int .i64 x461000_1, .int .i64 x461001_1, .int .i64 x461002_1, .int .i64 x461003_1, .string x461004_1, .string x461005_1] 26 (0, 0))) ∧ (w'.heap[gb496]? = some (.cells #[.int .i64 t489, .int .i64 t490, .int .i64 t491, .int .i64 t492, .string t493, .string t494] 26 (0, 0))) ∧ (w'.heap[s_]? = some (.cells #[.int .i64 0, .int .i64 0, .int .i64 0, .int .i64 0, .string (⟨#[]⟩ : ByteArray), .string (⟨#[]⟩ : ByteArray)] 26 (0, 0))) ∧ (w.heap.size ≤ s_) ∧ (w.heap.size ≤ s_) ∧ (gb460 ≠ s_) ∧ (s_ ≠ gb460) ∧ (gb496 ≠ s_) ∧ (s_ ≠ gb496) ∧ (Below w.heap.size w w')) ?_ ?_
          rotate_left
          ·intro hCont
           refine two_ (i := 0) (j := 6) (Ni := some 57) (Nj := some 9) #[true, true, false, false, false, false, false, false, false] #[false, true, false, false, false, false, true, false, false] rfl rfl rfl rfl (two_of HT_.out (by kernel_rfl)) (by decide) (by decide) (fun K hK => ?_) (fun K hK => ?_)
           ·skip
            refine goes_ Tryd.func12 (by kernel_rfl) rfl #[.slice none 0 0] (by rfl) rfl rfl (by (try simp only [List.map_toArray, List.map_cons, List.map_nil]); first | done | rfl | (simp only [List.length_drop, List.length_take]; rfl)) ?_
            refine (weld_Of.calls _ _ ([] : List Int) t497 t498 t499 t500 t501 t502 _ ?side1 ?side2 ?side3 A50.out).mono ?_
            (case side1 => first | (with_reducible exact HG.out) | exact Glob.Globs_below HG.out (by repeat (first | (with_reducible first | exact HB.out | apply below_alloc | apply pw_below_drewN | apply below_drew1 | refine below_set ?_ GE460.out | refine below_set ?_ GE496.out) | exact HB.out)))
            (case side2 => exact Kd.C_nil _ _)
            (case side3 => exact Nat.le_refl _)
            rintro e w70 ⟨rfl, hb⟩
            refine ⟨_, rfl, ?_⟩
            have n0_ := Aside0.mk (blk_below (g := gb460) (o := .cells #[.int .i64 x461000_1, .int .i64 x461001_1, .int .i64 x461002_1, .int .i64 x461003_1, .string x461004_1, .string x461005_1] 26 (0, 0)) (by (with_reducible repeat (first | refine blk_drewN ?_ _ | refine blk_drew ?_ | refine blk_alloc ?_ _)); exact BK460.out) hb)
            have n1_ := Aside0.mk (blk_below (g := gb496) (o := .cells #[.int .i64 t489, .int .i64 t490, .int .i64 t491, .int .i64 t492, .string t493, .string t494] 26 (0, 0)) (by (with_reducible repeat (first | refine blk_drewN ?_ _ | refine blk_drew ?_ | refine blk_alloc ?_ _)); exact BK496.out) hb)
            have n2_ := Aside0.mk (below_step (by repeat (first | (with_reducible first | exact HB.out | apply below_alloc | apply pw_below_drewN | apply below_drew1 | refine below_set ?_ GE460.out | refine below_set ?_ GE496.out) | exact HB.out)) hb)
            clear BK460
            clear BK496
            clear HB
            have BK460 := n0_
            have BK496 := n1_
            have HB := n2_
            clear n0_ n1_ n2_
            (try clear hb)
            (try clear hb2)
            (try clear hk)
            (try clear hi)
            refine hK.out _ _ ⟨(blk_cell BK460.out 0).trans rfl, (blk_cell BK460.out 1).trans rfl, (blk_cell BK460.out 2).trans rfl, (blk_cell BK460.out 3).trans rfl, (blk_cell BK460.out 4).trans rfl, (blk_cell BK460.out 5).trans rfl⟩ (fun hHeld => ?_)
            clear hK K
            refine norm_ (a' := ?_) ?_ ?_
            rotate_left
            ·show Act.put _ (some 57) _ = _
             simp only [Act.put, List.setIfInBounds_toArray, List.set_cons_zero, List.set_cons_succ, i64_w, i32_w]
             rfl
            refine two_ (i := 2) (j := 6) (Ni := some 59) (Nj := some 9) #[true, true, true, false, false, false, false, false, false] #[true, true, false, false, false, false, true, false, false] rfl rfl rfl rfl (two_of HT_.out (by kernel_rfl)) (by decide) (by decide) (fun K hK => ?_) (fun K hK => ?_)
            ·skip
             refine goes_ Tryd.func17 (by kernel_rfl) rfl #[.agg #[.int .i64 t497, .int .i64 t498, .int .i64 t499, .int .i64 t500, .string t501, .string t502], .agg #[.int .i64 x461000_1, .int .i64 x461001_1, .int .i64 x461002_1, .int .i64 x461003_1, .string x461004_1, .string x461005_1]] (by rfl) rfl rfl (by (try simp only [List.map_toArray, List.map_cons, List.map_nil]); first | done | rfl | (simp only [List.length_drop, List.length_take]; rfl)) ?_
             with_reducible refine (weld_Join.calls k1 t497 t498 t499 t500 t501 t502 x461000_1 x461001_1 x461002_1 x461003_1 x461004_1 x461005_1 t503 t504 t505 t506 t507 t508 t509 _ ?side1 A51.out).mono ?_
             (case side1 => first | (with_reducible exact HG.out) | exact Glob.Globs_below HG.out (by repeat (first | (with_reducible first | exact HB.out | apply below_alloc | apply pw_below_drewN | apply below_drew1 | refine below_set ?_ GE460.out | refine below_set ?_ GE496.out) | exact HB.out)))
             rintro e w71 ⟨rfl, hb⟩
             refine ⟨_, rfl, ?_⟩
             have n0_ := Aside0.mk (blk_below (g := gb460) (o := .cells #[.int .i64 x461000_1, .int .i64 x461001_1, .int .i64 x461002_1, .int .i64 x461003_1, .string x461004_1, .string x461005_1] 26 (0, 0)) (by (with_reducible repeat (first | refine blk_drewN ?_ _ | refine blk_drew ?_ | refine blk_alloc ?_ _)); exact BK460.out) hb)
             have n1_ := Aside0.mk (blk_below (g := gb496) (o := .cells #[.int .i64 t489, .int .i64 t490, .int .i64 t491, .int .i64 t492, .string t493, .string t494] 26 (0, 0)) (by (with_reducible repeat (first | refine blk_drewN ?_ _ | refine blk_drew ?_ | refine blk_alloc ?_ _)); exact BK496.out) hb)
             have n2_ := Aside0.mk (below_step (by repeat (first | (with_reducible first | exact HB.out | apply below_alloc | apply pw_below_drewN | apply below_drew1 | refine below_set ?_ GE460.out | refine below_set ?_ GE496.out) | exact HB.out)) hb)
             clear BK460
             clear BK496
             clear HB
             have BK460 := n0_
             have BK496 := n1_
             have HB := n2_
             clear n0_ n1_ n2_
             (try clear hb)
             (try clear hb2)
             (try clear hk)
             (try clear hi)
             refine hK.out _ _ ⟨(blk_cell BK460.out 0).trans rfl, (blk_cell BK460.out 1).trans rfl, (blk_cell BK460.out 2).trans rfl, (blk_cell BK460.out 3).trans rfl, (blk_cell BK460.out 4).trans rfl, (blk_cell BK460.out 5).trans rfl⟩ (fun hHeld => ?_)
             clear hK K
             refine norm_ (a' := ?_) ?_ ?_
             rotate_left
             ·show Act.put _ (some 59) _ = _
              simp only [Act.put, List.setIfInBounds_toArray, List.set_cons_zero, List.set_cons_succ, i64_w, i32_w]
              rfl
             refine pure_ (i := 3) (N := some 56) (v := ?_) (a' := ?_) #[true, true, true, true, false, false, false, false, false] rfl rfl (any_of HT_.out (by kernel_rfl)) (fun _ _ _ h => h) (Or.inl ⟨by rfl, ?_⟩) ?_ ?_
             rotate_left
             ·intro w'
              go_simp
              with_reducible rfl
             rotate_left
             ·simp only [Act.put, List.setIfInBounds_toArray, List.set_cons_zero, List.set_cons_succ, i64_w, i32_w]
              rfl
             refine pure_ (i := 4) (N := some 60) (v := ?_) (a' := ?_) #[true, true, true, true, true, false, false, false, false] rfl rfl (any_of HT_.out (by kernel_rfl)) (fun _ _ _ h => h) (Or.inl ⟨by rfl, ?_⟩) ?_ ?_
             rotate_left
             ·intro w'
              go_simp
              with_reducible rfl
             rotate_left
             ·simp only [Act.put, List.setIfInBounds_toArray, List.set_cons_zero, List.set_cons_succ, i64_w, i32_w]
              rfl
             refine pure_ (i := 5) (N := some 61) (v := ?_) (a' := ?_) #[true, true, true, true, true, true, false, false, false] rfl rfl (any_of HT_.out (by kernel_rfl)) (fun _ _ _ h => h) (Or.inl ⟨by rfl, ?_⟩) ?_ ?_
             rotate_left
             ·intro w'
              go_simp
              with_reducible rfl
             rotate_left
             ·simp only [Act.put, List.setIfInBounds_toArray, List.set_cons_zero, List.set_cons_succ, i64_w, i32_w]
              rfl
             refine one_ (i := 6) (N := some 9) #[true, true, true, true, true, true, true, false, false] rfl rfl (one_of HT_.out (by kernel_rfl)) (by decide) (fun K hK => ?_)
             refine box_step ?hg (N := 9) ?hd (cs := #[.int .i64 0, .int .i64 0, .int .i64 0, .int .i64 0, .string (⟨#[]⟩ : ByteArray), .string (⟨#[]⟩ : ByteArray)]) (t := 26) ?hr ?_; (case hd => rfl); (case hg => rfl); (case hr => first | (go_simp; done) | (go_simp; rfl))
             intro gb510 hg w72 hbox hb
             have n0_ := Aside0.mk (blk_below (g := gb460) (o := .cells #[.int .i64 x461000_1, .int .i64 x461001_1, .int .i64 x461002_1, .int .i64 x461003_1, .string x461004_1, .string x461005_1] 26 (0, 0)) (by (with_reducible repeat (first | refine blk_drewN ?_ _ | refine blk_drew ?_ | refine blk_alloc ?_ _)); exact BK460.out) hb)
             have n1_ := Aside0.mk (blk_below (g := gb496) (o := .cells #[.int .i64 t489, .int .i64 t490, .int .i64 t491, .int .i64 t492, .string t493, .string t494] 26 (0, 0)) (by (with_reducible repeat (first | refine blk_drewN ?_ _ | refine blk_drew ?_ | refine blk_alloc ?_ _)); exact BK496.out) hb)
             have n2_ := Aside0.mk (below_step (by repeat (first | (with_reducible first | exact HB.out | apply below_alloc | apply pw_below_drewN | apply below_drew1 | refine below_set ?_ GE460.out | refine below_set ?_ GE496.out) | exact HB.out)) hb)
             have n3_ := Aside0.mk (hbox)
             have n4_ := Aside0.mk ((by rw [hg]; exact (below_size (by repeat (first | (with_reducible first | exact HB.out | apply below_alloc | apply pw_below_drewN | apply below_drew1 | refine below_set ?_ GE460.out | refine below_set ?_ GE496.out) | exact HB.out))) : w.heap.size ≤ gb510))
             have n5_ := Aside0.mk ((by rw [hg]; exact (below_size (by repeat (first | (with_reducible first | exact HB.out | apply below_alloc | apply pw_below_drewN | apply below_drew1 | refine below_set ?_ GE460.out | refine below_set ?_ GE496.out) | exact HB.out))) : w.heap.size ≤ gb510))
             have n6_ := Aside0.mk ((by rw [hg]; exact Nat.ne_of_lt (blk_lt (g := gb460) (o := .cells #[.int .i64 x461000_1, .int .i64 x461001_1, .int .i64 x461002_1, .int .i64 x461003_1, .string x461004_1, .string x461005_1] 26 (0, 0)) (by (with_reducible repeat (first | refine blk_drewN ?_ _ | refine blk_drew ?_ | refine blk_alloc ?_ _)); exact BK460.out)) : gb460 ≠ gb510))
             have n7_ := Aside0.mk ((by rw [hg]; exact Nat.ne_of_gt (blk_lt (g := gb460) (o := .cells #[.int .i64 x461000_1, .int .i64 x461001_1, .int .i64 x461002_1, .int .i64 x461003_1, .string x461004_1, .string x461005_1] 26 (0, 0)) (by (with_reducible repeat (first | refine blk_drewN ?_ _ | refine blk_drew ?_ | refine blk_alloc ?_ _)); exact BK460.out)) : gb510 ≠ gb460))
             have n8_ := Aside0.mk ((by rw [hg]; exact Nat.ne_of_lt (blk_lt (g := gb496) (o := .cells #[.int .i64 t489, .int .i64 t490, .int .i64 t491, .int .i64 t492, .string t493, .string t494] 26 (0, 0)) (by (with_reducible repeat (first | refine blk_drewN ?_ _ | refine blk_drew ?_ | refine blk_alloc ?_ _)); exact BK496.out)) : gb496 ≠ gb510))
             have n9_ := Aside0.mk ((by rw [hg]; exact Nat.ne_of_gt (blk_lt (g := gb496) (o := .cells #[.int .i64 t489, .int .i64 t490, .int .i64 t491, .int .i64 t492, .string t493, .string t494] 26 (0, 0)) (by (with_reducible repeat (first | refine blk_drewN ?_ _ | refine blk_drew ?_ | refine blk_alloc ?_ _)); exact BK496.out)) : gb510 ≠ gb496))
             clear BK460
             clear BK496
             clear HB
             have BK460 := n0_
             have BK496 := n1_
             have HB := n2_
             have BK510 := n3_
             have GW510 := n4_
             have GE510 := n5_
             have NB460_510 := n6_
             have NB510_460 := n7_
             have NB496_510 := n8_
             have NB510_496 := n9_
             clear n0_ n1_ n2_ n3_ n4_ n5_ n6_ n7_ n8_ n9_
             clear hb hbox hg
             refine hK.out _ _ ⟨(blk_cell BK460.out 0).trans rfl, (blk_cell BK460.out 1).trans rfl, (blk_cell BK460.out 2).trans rfl, (blk_cell BK460.out 3).trans rfl, (blk_cell BK460.out 4).trans rfl, (blk_cell BK460.out 5).trans rfl⟩ (fun hHeld => ?_)
             clear hK K
             refine norm_ (a' := ?_) ?_ ?_
             rotate_left
             ·show Act.put _ (some 9) _ = _
              simp only [Act.put, List.setIfInBounds_toArray, List.set_cons_zero, List.set_cons_succ, i64_w, i32_w]
              rfl
             exact norm_ (by simp only [putAll, Act.put, List.setIfInBounds_toArray, List.set_cons_zero, List.set_cons_succ]) (hCont (gb510) _ ⟨hHeld, (by (with_reducible repeat (first | refine blk_drewN ?_ _ | refine blk_drew ?_ | refine blk_alloc ?_ _)); exact BK460.out), (by (with_reducible repeat (first | refine blk_drewN ?_ _ | refine blk_drew ?_ | refine blk_alloc ?_ _)); exact BK496.out), (by (with_reducible repeat (first | refine blk_drewN ?_ _ | refine blk_drew ?_ | refine blk_alloc ?_ _)); exact BK510.out), GW510.out, GE510.out, NB460_510.out, NB510_460.out, NB496_510.out, NB510_496.out, (by repeat (first | (with_reducible first | exact HB.out | apply below_alloc | apply pw_below_drewN | apply below_drew1 | refine below_set ?_ GE460.out | refine below_set ?_ GE496.out | refine below_set ?_ GE510.out) | exact HB.out))⟩)
            ·skip
             refine box_step ?hg (N := 9) ?hd (cs := #[.int .i64 0, .int .i64 0, .int .i64 0, .int .i64 0, .string (⟨#[]⟩ : ByteArray), .string (⟨#[]⟩ : ByteArray)]) (t := 26) ?hr ?_; (case hd => rfl); (case hg => rfl); (case hr => first | (go_simp; done) | (go_simp; rfl))
             intro gb510 hg w71 hbox hb
             have n0_ := Aside0.mk (blk_below (g := gb460) (o := .cells #[.int .i64 x461000_1, .int .i64 x461001_1, .int .i64 x461002_1, .int .i64 x461003_1, .string x461004_1, .string x461005_1] 26 (0, 0)) (by (with_reducible repeat (first | refine blk_drewN ?_ _ | refine blk_drew ?_ | refine blk_alloc ?_ _)); exact BK460.out) hb)
             have n1_ := Aside0.mk (blk_below (g := gb496) (o := .cells #[.int .i64 t489, .int .i64 t490, .int .i64 t491, .int .i64 t492, .string t493, .string t494] 26 (0, 0)) (by (with_reducible repeat (first | refine blk_drewN ?_ _ | refine blk_drew ?_ | refine blk_alloc ?_ _)); exact BK496.out) hb)
             have n2_ := Aside0.mk (below_step (by repeat (first | (with_reducible first | exact HB.out | apply below_alloc | apply pw_below_drewN | apply below_drew1 | refine below_set ?_ GE460.out | refine below_set ?_ GE496.out) | exact HB.out)) hb)
             have n3_ := Aside0.mk (hbox)
             have n4_ := Aside0.mk ((by rw [hg]; exact (below_size (by repeat (first | (with_reducible first | exact HB.out | apply below_alloc | apply pw_below_drewN | apply below_drew1 | refine below_set ?_ GE460.out | refine below_set ?_ GE496.out) | exact HB.out))) : w.heap.size ≤ gb510))
             have n5_ := Aside0.mk ((by rw [hg]; exact (below_size (by repeat (first | (with_reducible first | exact HB.out | apply below_alloc | apply pw_below_drewN | apply below_drew1 | refine below_set ?_ GE460.out | refine below_set ?_ GE496.out) | exact HB.out))) : w.heap.size ≤ gb510))
             have n6_ := Aside0.mk ((by rw [hg]; exact Nat.ne_of_lt (blk_lt (g := gb460) (o := .cells #[.int .i64 x461000_1, .int .i64 x461001_1, .int .i64 x461002_1, .int .i64 x461003_1, .string x461004_1, .string x461005_1] 26 (0, 0)) (by (with_reducible repeat (first | refine blk_drewN ?_ _ | refine blk_drew ?_ | refine blk_alloc ?_ _)); exact BK460.out)) : gb460 ≠ gb510))
             have n7_ := Aside0.mk ((by rw [hg]; exact Nat.ne_of_gt (blk_lt (g := gb460) (o := .cells #[.int .i64 x461000_1, .int .i64 x461001_1, .int .i64 x461002_1, .int .i64 x461003_1, .string x461004_1, .string x461005_1] 26 (0, 0)) (by (with_reducible repeat (first | refine blk_drewN ?_ _ | refine blk_drew ?_ | refine blk_alloc ?_ _)); exact BK460.out)) : gb510 ≠ gb460))
             have n8_ := Aside0.mk ((by rw [hg]; exact Nat.ne_of_lt (blk_lt (g := gb496) (o := .cells #[.int .i64 t489, .int .i64 t490, .int .i64 t491, .int .i64 t492, .string t493, .string t494] 26 (0, 0)) (by (with_reducible repeat (first | refine blk_drewN ?_ _ | refine blk_drew ?_ | refine blk_alloc ?_ _)); exact BK496.out)) : gb496 ≠ gb510))
             have n9_ := Aside0.mk ((by rw [hg]; exact Nat.ne_of_gt (blk_lt (g := gb496) (o := .cells #[.int .i64 t489, .int .i64 t490, .int .i64 t491, .int .i64 t492, .string t493, .string t494] 26 (0, 0)) (by (with_reducible repeat (first | refine blk_drewN ?_ _ | refine blk_drew ?_ | refine blk_alloc ?_ _)); exact BK496.out)) : gb510 ≠ gb496))
             clear BK460
             clear BK496
             clear HB
             have BK460 := n0_
             have BK496 := n1_
             have HB := n2_
             have BK510 := n3_
             have GW510 := n4_
             have GE510 := n5_
             have NB460_510 := n6_
             have NB510_460 := n7_
             have NB496_510 := n8_
             have NB510_496 := n9_
             clear n0_ n1_ n2_ n3_ n4_ n5_ n6_ n7_ n8_ n9_
             clear hb hbox hg
             refine hK.out _ _ ⟨(blk_cell BK460.out 0).trans rfl, (blk_cell BK460.out 1).trans rfl, (blk_cell BK460.out 2).trans rfl, (blk_cell BK460.out 3).trans rfl, (blk_cell BK460.out 4).trans rfl, (blk_cell BK460.out 5).trans rfl⟩ (fun hHeld => ?_)
             clear hK K
             refine norm_ (a' := ?_) ?_ ?_
             rotate_left
             ·show Act.put _ (some 9) _ = _
              simp only [Act.put, List.setIfInBounds_toArray, List.set_cons_zero, List.set_cons_succ, i64_w, i32_w]
              rfl
             refine one_ (i := 2) (N := some 59) #[true, true, true, false, false, false, true, false, false] rfl rfl (one_of HT_.out (by kernel_rfl)) (by decide) (fun K hK => ?_)
             refine goes_ Tryd.func17 (by kernel_rfl) rfl #[.agg #[.int .i64 t497, .int .i64 t498, .int .i64 t499, .int .i64 t500, .string t501, .string t502], .agg #[.int .i64 x461000_1, .int .i64 x461001_1, .int .i64 x461002_1, .int .i64 x461003_1, .string x461004_1, .string x461005_1]] (by rfl) rfl rfl (by (try simp only [List.map_toArray, List.map_cons, List.map_nil]); first | done | rfl | (simp only [List.length_drop, List.length_take]; rfl)) ?_
             with_reducible refine (weld_Join.calls k1 t497 t498 t499 t500 t501 t502 x461000_1 x461001_1 x461002_1 x461003_1 x461004_1 x461005_1 t503 t504 t505 t506 t507 t508 t509 _ ?side1 A51.out).mono ?_
             (case side1 => first | (with_reducible exact HG.out) | exact Glob.Globs_below HG.out (by repeat (first | (with_reducible first | exact HB.out | apply below_alloc | apply pw_below_drewN | apply below_drew1 | refine below_set ?_ GE460.out | refine below_set ?_ GE496.out | refine below_set ?_ GE510.out) | exact HB.out)))
             rintro e w72 ⟨rfl, hb⟩
             refine ⟨_, rfl, ?_⟩
             have n0_ := Aside0.mk (blk_below (g := gb460) (o := .cells #[.int .i64 x461000_1, .int .i64 x461001_1, .int .i64 x461002_1, .int .i64 x461003_1, .string x461004_1, .string x461005_1] 26 (0, 0)) (by (with_reducible repeat (first | refine blk_drewN ?_ _ | refine blk_drew ?_ | refine blk_alloc ?_ _)); exact BK460.out) hb)
             have n1_ := Aside0.mk (blk_below (g := gb496) (o := .cells #[.int .i64 t489, .int .i64 t490, .int .i64 t491, .int .i64 t492, .string t493, .string t494] 26 (0, 0)) (by (with_reducible repeat (first | refine blk_drewN ?_ _ | refine blk_drew ?_ | refine blk_alloc ?_ _)); exact BK496.out) hb)
             have n2_ := Aside0.mk (blk_below (g := gb510) (o := .cells #[.int .i64 0, .int .i64 0, .int .i64 0, .int .i64 0, .string (⟨#[]⟩ : ByteArray), .string (⟨#[]⟩ : ByteArray)] 26 (0, 0)) (by (with_reducible repeat (first | refine blk_drewN ?_ _ | refine blk_drew ?_ | refine blk_alloc ?_ _)); exact BK510.out) hb)
             have n3_ := Aside0.mk (below_step (by repeat (first | (with_reducible first | exact HB.out | apply below_alloc | apply pw_below_drewN | apply below_drew1 | refine below_set ?_ GE460.out | refine below_set ?_ GE496.out | refine below_set ?_ GE510.out) | exact HB.out)) hb)
             clear BK460
             clear BK496
             clear BK510
             clear HB
             have BK460 := n0_
             have BK496 := n1_
             have BK510 := n2_
             have HB := n3_
             clear n0_ n1_ n2_ n3_
             (try clear hb)
             (try clear hb2)
             (try clear hk)
             (try clear hi)
             refine hK.out _ _ ⟨(blk_cell BK460.out 0).trans rfl, (blk_cell BK460.out 1).trans rfl, (blk_cell BK460.out 2).trans rfl, (blk_cell BK460.out 3).trans rfl, (blk_cell BK460.out 4).trans rfl, (blk_cell BK460.out 5).trans rfl⟩ (fun hHeld => ?_)
             clear hK K
             refine norm_ (a' := ?_) ?_ ?_
             rotate_left
             ·show Act.put _ (some 59) _ = _
              simp only [Act.put, List.setIfInBounds_toArray, List.set_cons_zero, List.set_cons_succ, i64_w, i32_w]
              rfl
             refine pure_ (i := 3) (N := some 56) (v := ?_) (a' := ?_) #[true, true, true, true, false, false, true, false, false] rfl rfl (any_of HT_.out (by kernel_rfl)) (fun _ _ _ h => h) (Or.inl ⟨by rfl, ?_⟩) ?_ ?_
             rotate_left
             ·intro w'
              go_simp
              with_reducible rfl
             rotate_left
             ·simp only [Act.put, List.setIfInBounds_toArray, List.set_cons_zero, List.set_cons_succ, i64_w, i32_w]
              rfl
             refine pure_ (i := 4) (N := some 60) (v := ?_) (a' := ?_) #[true, true, true, true, true, false, true, false, false] rfl rfl (any_of HT_.out (by kernel_rfl)) (fun _ _ _ h => h) (Or.inl ⟨by rfl, ?_⟩) ?_ ?_
             rotate_left
             ·intro w'
              go_simp
              with_reducible rfl
             rotate_left
             ·simp only [Act.put, List.setIfInBounds_toArray, List.set_cons_zero, List.set_cons_succ, i64_w, i32_w]
              rfl
             refine pure_ (i := 5) (N := some 61) (v := ?_) (a' := ?_) #[true, true, true, true, true, true, true, false, false] rfl rfl (any_of HT_.out (by kernel_rfl)) (fun _ _ _ h => h) (Or.inl ⟨by rfl, ?_⟩) ?_ ?_
             rotate_left
             ·intro w'
              go_simp
              with_reducible rfl
             rotate_left
             ·simp only [Act.put, List.setIfInBounds_toArray, List.set_cons_zero, List.set_cons_succ, i64_w, i32_w]
              rfl
             exact norm_ (by simp only [putAll, Act.put, List.setIfInBounds_toArray, List.set_cons_zero, List.set_cons_succ]) (hCont (gb510) _ ⟨hHeld, (by (with_reducible repeat (first | refine blk_drewN ?_ _ | refine blk_drew ?_ | refine blk_alloc ?_ _)); exact BK460.out), (by (with_reducible repeat (first | refine blk_drewN ?_ _ | refine blk_drew ?_ | refine blk_alloc ?_ _)); exact BK496.out), (by (with_reducible repeat (first | refine blk_drewN ?_ _ | refine blk_drew ?_ | refine blk_alloc ?_ _)); exact BK510.out), GW510.out, GE510.out, NB460_510.out, NB510_460.out, NB496_510.out, NB510_496.out, (by repeat (first | (with_reducible first | exact HB.out | apply below_alloc | apply pw_below_drewN | apply below_drew1 | refine below_set ?_ GE460.out | refine below_set ?_ GE496.out | refine below_set ?_ GE510.out) | exact HB.out))⟩)
           ·skip
            refine box_step ?hg (N := 9) ?hd (cs := #[.int .i64 0, .int .i64 0, .int .i64 0, .int .i64 0, .string (⟨#[]⟩ : ByteArray), .string (⟨#[]⟩ : ByteArray)]) (t := 26) ?hr ?_; (case hd => rfl); (case hg => rfl); (case hr => first | (go_simp; done) | (go_simp; rfl))
            intro gb510 hg w70 hbox hb
            have n0_ := Aside0.mk (blk_below (g := gb460) (o := .cells #[.int .i64 x461000_1, .int .i64 x461001_1, .int .i64 x461002_1, .int .i64 x461003_1, .string x461004_1, .string x461005_1] 26 (0, 0)) (by (with_reducible repeat (first | refine blk_drewN ?_ _ | refine blk_drew ?_ | refine blk_alloc ?_ _)); exact BK460.out) hb)
            have n1_ := Aside0.mk (blk_below (g := gb496) (o := .cells #[.int .i64 t489, .int .i64 t490, .int .i64 t491, .int .i64 t492, .string t493, .string t494] 26 (0, 0)) (by (with_reducible repeat (first | refine blk_drewN ?_ _ | refine blk_drew ?_ | refine blk_alloc ?_ _)); exact BK496.out) hb)
            have n2_ := Aside0.mk (below_step (by repeat (first | (with_reducible first | exact HB.out | apply below_alloc | apply pw_below_drewN | apply below_drew1 | refine below_set ?_ GE460.out | refine below_set ?_ GE496.out) | exact HB.out)) hb)
            have n3_ := Aside0.mk (hbox)
            have n4_ := Aside0.mk ((by rw [hg]; exact (below_size (by repeat (first | (with_reducible first | exact HB.out | apply below_alloc | apply pw_below_drewN | apply below_drew1 | refine below_set ?_ GE460.out | refine below_set ?_ GE496.out) | exact HB.out))) : w.heap.size ≤ gb510))
            have n5_ := Aside0.mk ((by rw [hg]; exact (below_size (by repeat (first | (with_reducible first | exact HB.out | apply below_alloc | apply pw_below_drewN | apply below_drew1 | refine below_set ?_ GE460.out | refine below_set ?_ GE496.out) | exact HB.out))) : w.heap.size ≤ gb510))
            have n6_ := Aside0.mk ((by rw [hg]; exact Nat.ne_of_lt (blk_lt (g := gb460) (o := .cells #[.int .i64 x461000_1, .int .i64 x461001_1, .int .i64 x461002_1, .int .i64 x461003_1, .string x461004_1, .string x461005_1] 26 (0, 0)) (by (with_reducible repeat (first | refine blk_drewN ?_ _ | refine blk_drew ?_ | refine blk_alloc ?_ _)); exact BK460.out)) : gb460 ≠ gb510))
            have n7_ := Aside0.mk ((by rw [hg]; exact Nat.ne_of_gt (blk_lt (g := gb460) (o := .cells #[.int .i64 x461000_1, .int .i64 x461001_1, .int .i64 x461002_1, .int .i64 x461003_1, .string x461004_1, .string x461005_1] 26 (0, 0)) (by (with_reducible repeat (first | refine blk_drewN ?_ _ | refine blk_drew ?_ | refine blk_alloc ?_ _)); exact BK460.out)) : gb510 ≠ gb460))
            have n8_ := Aside0.mk ((by rw [hg]; exact Nat.ne_of_lt (blk_lt (g := gb496) (o := .cells #[.int .i64 t489, .int .i64 t490, .int .i64 t491, .int .i64 t492, .string t493, .string t494] 26 (0, 0)) (by (with_reducible repeat (first | refine blk_drewN ?_ _ | refine blk_drew ?_ | refine blk_alloc ?_ _)); exact BK496.out)) : gb496 ≠ gb510))
            have n9_ := Aside0.mk ((by rw [hg]; exact Nat.ne_of_gt (blk_lt (g := gb496) (o := .cells #[.int .i64 t489, .int .i64 t490, .int .i64 t491, .int .i64 t492, .string t493, .string t494] 26 (0, 0)) (by (with_reducible repeat (first | refine blk_drewN ?_ _ | refine blk_drew ?_ | refine blk_alloc ?_ _)); exact BK496.out)) : gb510 ≠ gb496))
            clear BK460
            clear BK496
            clear HB
            have BK460 := n0_
            have BK496 := n1_
            have HB := n2_
            have BK510 := n3_
            have GW510 := n4_
            have GE510 := n5_
            have NB460_510 := n6_
            have NB510_460 := n7_
            have NB496_510 := n8_
            have NB510_496 := n9_
            clear n0_ n1_ n2_ n3_ n4_ n5_ n6_ n7_ n8_ n9_
            clear hb hbox hg
            refine hK.out _ _ ⟨(blk_cell BK460.out 0).trans rfl, (blk_cell BK460.out 1).trans rfl, (blk_cell BK460.out 2).trans rfl, (blk_cell BK460.out 3).trans rfl, (blk_cell BK460.out 4).trans rfl, (blk_cell BK460.out 5).trans rfl⟩ (fun hHeld => ?_)
            clear hK K
            refine norm_ (a' := ?_) ?_ ?_
            rotate_left
            ·show Act.put _ (some 9) _ = _
             simp only [Act.put, List.setIfInBounds_toArray, List.set_cons_zero, List.set_cons_succ, i64_w, i32_w]
             rfl
            refine one_ (i := 0) (N := some 57) #[true, true, false, false, false, false, true, false, false] rfl rfl (one_of HT_.out (by kernel_rfl)) (by decide) (fun K hK => ?_)
            refine goes_ Tryd.func12 (by kernel_rfl) rfl #[.slice none 0 0] (by rfl) rfl rfl (by (try simp only [List.map_toArray, List.map_cons, List.map_nil]); first | done | rfl | (simp only [List.length_drop, List.length_take]; rfl)) ?_
            refine (weld_Of.calls _ _ ([] : List Int) t497 t498 t499 t500 t501 t502 _ ?side1 ?side2 ?side3 A50.out).mono ?_
            (case side1 => first | (with_reducible exact HG.out) | exact Glob.Globs_below HG.out (by repeat (first | (with_reducible first | exact HB.out | apply below_alloc | apply pw_below_drewN | apply below_drew1 | refine below_set ?_ GE460.out | refine below_set ?_ GE496.out | refine below_set ?_ GE510.out) | exact HB.out)))
            (case side2 => exact Kd.C_nil _ _)
            (case side3 => exact Nat.le_refl _)
            rintro e w71 ⟨rfl, hb⟩
            refine ⟨_, rfl, ?_⟩
            have n0_ := Aside0.mk (blk_below (g := gb460) (o := .cells #[.int .i64 x461000_1, .int .i64 x461001_1, .int .i64 x461002_1, .int .i64 x461003_1, .string x461004_1, .string x461005_1] 26 (0, 0)) (by (with_reducible repeat (first | refine blk_drewN ?_ _ | refine blk_drew ?_ | refine blk_alloc ?_ _)); exact BK460.out) hb)
            have n1_ := Aside0.mk (blk_below (g := gb496) (o := .cells #[.int .i64 t489, .int .i64 t490, .int .i64 t491, .int .i64 t492, .string t493, .string t494] 26 (0, 0)) (by (with_reducible repeat (first | refine blk_drewN ?_ _ | refine blk_drew ?_ | refine blk_alloc ?_ _)); exact BK496.out) hb)
            have n2_ := Aside0.mk (blk_below (g := gb510) (o := .cells #[.int .i64 0, .int .i64 0, .int .i64 0, .int .i64 0, .string (⟨#[]⟩ : ByteArray), .string (⟨#[]⟩ : ByteArray)] 26 (0, 0)) (by (with_reducible repeat (first | refine blk_drewN ?_ _ | refine blk_drew ?_ | refine blk_alloc ?_ _)); exact BK510.out) hb)
            have n3_ := Aside0.mk (below_step (by repeat (first | (with_reducible first | exact HB.out | apply below_alloc | apply pw_below_drewN | apply below_drew1 | refine below_set ?_ GE460.out | refine below_set ?_ GE496.out | refine below_set ?_ GE510.out) | exact HB.out)) hb)
            clear BK460
            clear BK496
            clear BK510
            clear HB
            have BK460 := n0_
            have BK496 := n1_
            have BK510 := n2_
            have HB := n3_
            clear n0_ n1_ n2_ n3_
            (try clear hb)
            (try clear hb2)
            (try clear hk)
            (try clear hi)
            refine hK.out _ _ ⟨(blk_cell BK460.out 0).trans rfl, (blk_cell BK460.out 1).trans rfl, (blk_cell BK460.out 2).trans rfl, (blk_cell BK460.out 3).trans rfl, (blk_cell BK460.out 4).trans rfl, (blk_cell BK460.out 5).trans rfl⟩ (fun hHeld => ?_)
            clear hK K
            refine norm_ (a' := ?_) ?_ ?_
            rotate_left
            ·show Act.put _ (some 57) _ = _
             simp only [Act.put, List.setIfInBounds_toArray, List.set_cons_zero, List.set_cons_succ, i64_w, i32_w]
             rfl
            refine one_ (i := 2) (N := some 59) #[true, true, true, false, false, false, true, false, false] rfl rfl (one_of HT_.out (by kernel_rfl)) (by decide) (fun K hK => ?_)
            refine goes_ Tryd.func17 (by kernel_rfl) rfl #[.agg #[.int .i64 t497, .int .i64 t498, .int .i64 t499, .int .i64 t500, .string t501, .string t502], .agg #[.int .i64 x461000_1, .int .i64 x461001_1, .int .i64 x461002_1, .int .i64 x461003_1, .string x461004_1, .string x461005_1]] (by rfl) rfl rfl (by (try simp only [List.map_toArray, List.map_cons, List.map_nil]); first | done | rfl | (simp only [List.length_drop, List.length_take]; rfl)) ?_
            with_reducible refine (weld_Join.calls k1 t497 t498 t499 t500 t501 t502 x461000_1 x461001_1 x461002_1 x461003_1 x461004_1 x461005_1 t503 t504 t505 t506 t507 t508 t509 _ ?side1 A51.out).mono ?_
            (case side1 => first | (with_reducible exact HG.out) | exact Glob.Globs_below HG.out (by repeat (first | (with_reducible first | exact HB.out | apply below_alloc | apply pw_below_drewN | apply below_drew1 | refine below_set ?_ GE460.out | refine below_set ?_ GE496.out | refine below_set ?_ GE510.out) | exact HB.out)))
            rintro e w72 ⟨rfl, hb⟩
            refine ⟨_, rfl, ?_⟩
            have n0_ := Aside0.mk (blk_below (g := gb460) (o := .cells #[.int .i64 x461000_1, .int .i64 x461001_1, .int .i64 x461002_1, .int .i64 x461003_1, .string x461004_1, .string x461005_1] 26 (0, 0)) (by (with_reducible repeat (first | refine blk_drewN ?_ _ | refine blk_drew ?_ | refine blk_alloc ?_ _)); exact BK460.out) hb)
            have n1_ := Aside0.mk (blk_below (g := gb496) (o := .cells #[.int .i64 t489, .int .i64 t490, .int .i64 t491, .int .i64 t492, .string t493, .string t494] 26 (0, 0)) (by (with_reducible repeat (first | refine blk_drewN ?_ _ | refine blk_drew ?_ | refine blk_alloc ?_ _)); exact BK496.out) hb)
            have n2_ := Aside0.mk (blk_below (g := gb510) (o := .cells #[.int .i64 0, .int .i64 0, .int .i64 0, .int .i64 0, .string (⟨#[]⟩ : ByteArray), .string (⟨#[]⟩ : ByteArray)] 26 (0, 0)) (by (with_reducible repeat (first | refine blk_drewN ?_ _ | refine blk_drew ?_ | refine blk_alloc ?_ _)); exact BK510.out) hb)
            have n3_ := Aside0.mk (below_step (by repeat (first | (with_reducible first | exact HB.out | apply below_alloc | apply pw_below_drewN | apply below_drew1 | refine below_set ?_ GE460.out | refine below_set ?_ GE496.out | refine below_set ?_ GE510.out) | exact HB.out)) hb)
            clear BK460
            clear BK496
            clear BK510
            clear HB
            have BK460 := n0_
            have BK496 := n1_
            have BK510 := n2_
            have HB := n3_
            clear n0_ n1_ n2_ n3_
            (try clear hb)
            (try clear hb2)
            (try clear hk)
            (try clear hi)
            refine hK.out _ _ ⟨(blk_cell BK460.out 0).trans rfl, (blk_cell BK460.out 1).trans rfl, (blk_cell BK460.out 2).trans rfl, (blk_cell BK460.out 3).trans rfl, (blk_cell BK460.out 4).trans rfl, (blk_cell BK460.out 5).trans rfl⟩ (fun hHeld => ?_)
            clear hK K
            refine norm_ (a' := ?_) ?_ ?_
            rotate_left
            ·show Act.put _ (some 59) _ = _
             simp only [Act.put, List.setIfInBounds_toArray, List.set_cons_zero, List.set_cons_succ, i64_w, i32_w]
             rfl
            refine pure_ (i := 3) (N := some 56) (v := ?_) (a' := ?_) #[true, true, true, true, false, false, true, false, false] rfl rfl (any_of HT_.out (by kernel_rfl)) (fun _ _ _ h => h) (Or.inl ⟨by rfl, ?_⟩) ?_ ?_
            rotate_left
            ·intro w'
             go_simp
             with_reducible rfl
            rotate_left
            ·simp only [Act.put, List.setIfInBounds_toArray, List.set_cons_zero, List.set_cons_succ, i64_w, i32_w]
             rfl
            refine pure_ (i := 4) (N := some 60) (v := ?_) (a' := ?_) #[true, true, true, true, true, false, true, false, false] rfl rfl (any_of HT_.out (by kernel_rfl)) (fun _ _ _ h => h) (Or.inl ⟨by rfl, ?_⟩) ?_ ?_
            rotate_left
            ·intro w'
             go_simp
             with_reducible rfl
            rotate_left
            ·simp only [Act.put, List.setIfInBounds_toArray, List.set_cons_zero, List.set_cons_succ, i64_w, i32_w]
             rfl
            refine pure_ (i := 5) (N := some 61) (v := ?_) (a' := ?_) #[true, true, true, true, true, true, true, false, false] rfl rfl (any_of HT_.out (by kernel_rfl)) (fun _ _ _ h => h) (Or.inl ⟨by rfl, ?_⟩) ?_ ?_
            rotate_left
            ·intro w'
             go_simp
             with_reducible rfl
            rotate_left
            ·simp only [Act.put, List.setIfInBounds_toArray, List.set_cons_zero, List.set_cons_succ, i64_w, i32_w]
             rfl
            exact norm_ (by simp only [putAll, Act.put, List.setIfInBounds_toArray, List.set_cons_zero, List.set_cons_succ]) (hCont (gb510) _ ⟨hHeld, (by (with_reducible repeat (first | refine blk_drewN ?_ _ | refine blk_drew ?_ | refine blk_alloc ?_ _)); exact BK460.out), (by (with_reducible repeat (first | refine blk_drewN ?_ _ | refine blk_drew ?_ | refine blk_alloc ?_ _)); exact BK496.out), (by (with_reducible repeat (first | refine blk_drewN ?_ _ | refine blk_drew ?_ | refine blk_alloc ?_ _)); exact BK510.out), GW510.out, GE510.out, NB460_510.out, NB510_460.out, NB496_510.out, NB510_496.out, (by repeat (first | (with_reducible first | exact HB.out | apply below_alloc | apply pw_below_drewN | apply below_drew1 | refine below_set ?_ GE460.out | refine below_set ?_ GE496.out | refine below_set ?_ GE510.out) | exact HB.out))⟩)
          rintro gb510 w73 ⟨hS_, h0_, h1_, h2_, h3_, h4_, h5_, h6_, h7_, h8_, h9_⟩
          have n0_ : Aside0 (w73.heap[gb460]? = some (.cells #[.int .i64 x461000_1, .int .i64 x461001_1, .int .i64 x461002_1, .int .i64 x461003_1, .string x461004_1, .string x461005_1] 26 (0, 0))) := ⟨h0_⟩
          have n1_ : Aside0 (w73.heap[gb496]? = some (.cells #[.int .i64 t489, .int .i64 t490, .int .i64 t491, .int .i64 t492, .string t493, .string t494] 26 (0, 0))) := ⟨h1_⟩
          have n2_ : Aside0 (w73.heap[gb510]? = some (.cells #[.int .i64 0, .int .i64 0, .int .i64 0, .int .i64 0, .string (⟨#[]⟩ : ByteArray), .string (⟨#[]⟩ : ByteArray)] 26 (0, 0))) := ⟨h2_⟩
          have n3_ : Aside0 (w.heap.size ≤ gb510) := ⟨h3_⟩
          have n4_ : Aside0 (w.heap.size ≤ gb510) := ⟨h4_⟩
          have n5_ : Aside0 (gb460 ≠ gb510) := ⟨h5_⟩
          have n6_ : Aside0 (gb510 ≠ gb460) := ⟨h6_⟩
          have n7_ : Aside0 (gb496 ≠ gb510) := ⟨h7_⟩
          have n8_ : Aside0 (gb510 ≠ gb496) := ⟨h8_⟩
          have n9_ : Aside0 (Below w.heap.size w w73) := ⟨h9_⟩
          clear BK460
          clear BK496
          clear HB
          clear h0_ h1_ h2_ h3_ h4_ h5_ h6_ h7_ h8_ h9_
          have BK460 := n0_
          have BK496 := n1_
          have BK510 := n2_
          have GW510 := n3_
          have GE510 := n4_
          have NB460_510 := n5_
          have NB510_460 := n6_
          have NB496_510 := n7_
          have NB510_496 := n8_
          have HB := n9_
          clear n0_ n1_ n2_ n3_ n4_ n5_ n6_ n7_ n8_ n9_
          have hHeld : w73.cell? ⟨gb460, 0, none⟩ = some (.int .i64 x461000_1) ∧ w73.cell? ⟨gb460, 1, none⟩ = some (.int .i64 x461001_1) ∧ w73.cell? ⟨gb460, 2, none⟩ = some (.int .i64 x461002_1) ∧ w73.cell? ⟨gb460, 3, none⟩ = some (.int .i64 x461003_1) ∧ w73.cell? ⟨gb460, 4, none⟩ = some (.string x461004_1) ∧ w73.cell? ⟨gb460, 5, none⟩ = some (.string x461005_1) := hS_
          refine norm_ (a' := ?_) ?_ ?_
          rotate_left
          ·simp only [putAll, Act.put, List.setIfInBounds_toArray, List.set_cons_zero, List.set_cons_succ]
           rfl
          refine one_ (i := 7) (N := none) #[true, true, true, true, true, true, true, true, false] rfl rfl (one_of HT_.out (by kernel_rfl)) (by decide) (fun K hK => ?_)
          have hs74 : w73.cell? ⟨gb510, 0, none⟩ = some (.int .i64 0) := (blk_cell BK510.out 0).trans rfl
          have hfs74 := blk_frozen BK510.out 0
          have hns74_0 := NB460_510.out
          have hns74_1 := NB496_510.out
          have hms74_0 := NB510_460.out
          have hms74_1 := NB510_496.out
          have hs75 : w73.cell? ⟨gb510, 1, none⟩ = some (.int .i64 0) := (blk_cell BK510.out 1).trans rfl
          have hfs75 := blk_frozen BK510.out 1
          have hns75_0 := NB460_510.out
          have hns75_1 := NB496_510.out
          have hms75_0 := NB510_460.out
          have hms75_1 := NB510_496.out
          have hs76 : w73.cell? ⟨gb510, 2, none⟩ = some (.int .i64 0) := (blk_cell BK510.out 2).trans rfl
          have hfs76 := blk_frozen BK510.out 2
          have hns76_0 := NB460_510.out
          have hns76_1 := NB496_510.out
          have hms76_0 := NB510_460.out
          have hms76_1 := NB510_496.out
          have hs77 : w73.cell? ⟨gb510, 3, none⟩ = some (.int .i64 0) := (blk_cell BK510.out 3).trans rfl
          have hfs77 := blk_frozen BK510.out 3
          have hns77_0 := NB460_510.out
          have hns77_1 := NB496_510.out
          have hms77_0 := NB510_460.out
          have hms77_1 := NB510_496.out
          have hs78 : w73.cell? ⟨gb510, 4, none⟩ = some (.string (⟨#[]⟩ : ByteArray)) := (blk_cell BK510.out 4).trans rfl
          have hfs78 := blk_frozen BK510.out 4
          have hns78_0 := NB460_510.out
          have hns78_1 := NB496_510.out
          have hms78_0 := NB510_460.out
          have hms78_1 := NB510_496.out
          have hs79 : w73.cell? ⟨gb510, 5, none⟩ = some (.string (⟨#[]⟩ : ByteArray)) := (blk_cell BK510.out 5).trans rfl
          have hfs79 := blk_frozen BK510.out 5
          have hns79_0 := NB460_510.out
          have hns79_1 := NB496_510.out
          have hms79_0 := NB510_460.out
          have hms79_1 := NB510_496.out
          refine skip_ (w1 := ?_) (by rfl) rfl ?_ ?_
          rotate_left
          ·go_simp
           rfl
          refine hK.out _ _ ⟨((cell_far (p := ⟨gb510, _, none⟩) NB460_510.out _).trans (((cell_far (p := ⟨gb510, _, none⟩) NB460_510.out _).trans (((cell_far (p := ⟨gb510, _, none⟩) NB460_510.out _).trans (((cell_far (p := ⟨gb510, _, none⟩) NB460_510.out _).trans (((cell_far (p := ⟨gb510, _, none⟩) NB460_510.out _).trans (((cell_far (p := ⟨gb510, _, none⟩) NB460_510.out _).trans (hHeld.1)))))))))))), ((cell_far (p := ⟨gb510, _, none⟩) NB460_510.out _).trans (((cell_far (p := ⟨gb510, _, none⟩) NB460_510.out _).trans (((cell_far (p := ⟨gb510, _, none⟩) NB460_510.out _).trans (((cell_far (p := ⟨gb510, _, none⟩) NB460_510.out _).trans (((cell_far (p := ⟨gb510, _, none⟩) NB460_510.out _).trans (((cell_far (p := ⟨gb510, _, none⟩) NB460_510.out _).trans (hHeld.2.1)))))))))))), ((cell_far (p := ⟨gb510, _, none⟩) NB460_510.out _).trans (((cell_far (p := ⟨gb510, _, none⟩) NB460_510.out _).trans (((cell_far (p := ⟨gb510, _, none⟩) NB460_510.out _).trans (((cell_far (p := ⟨gb510, _, none⟩) NB460_510.out _).trans (((cell_far (p := ⟨gb510, _, none⟩) NB460_510.out _).trans (((cell_far (p := ⟨gb510, _, none⟩) NB460_510.out _).trans (hHeld.2.2.1)))))))))))), ((cell_far (p := ⟨gb510, _, none⟩) NB460_510.out _).trans (((cell_far (p := ⟨gb510, _, none⟩) NB460_510.out _).trans (((cell_far (p := ⟨gb510, _, none⟩) NB460_510.out _).trans (((cell_far (p := ⟨gb510, _, none⟩) NB460_510.out _).trans (((cell_far (p := ⟨gb510, _, none⟩) NB460_510.out _).trans (((cell_far (p := ⟨gb510, _, none⟩) NB460_510.out _).trans (hHeld.2.2.2.1)))))))))))), ((cell_far (p := ⟨gb510, _, none⟩) NB460_510.out _).trans (((cell_far (p := ⟨gb510, _, none⟩) NB460_510.out _).trans (((cell_far (p := ⟨gb510, _, none⟩) NB460_510.out _).trans (((cell_far (p := ⟨gb510, _, none⟩) NB460_510.out _).trans (((cell_far (p := ⟨gb510, _, none⟩) NB460_510.out _).trans (((cell_far (p := ⟨gb510, _, none⟩) NB460_510.out _).trans (hHeld.2.2.2.2.1)))))))))))), ((cell_far (p := ⟨gb510, _, none⟩) NB460_510.out _).trans (((cell_far (p := ⟨gb510, _, none⟩) NB460_510.out _).trans (((cell_far (p := ⟨gb510, _, none⟩) NB460_510.out _).trans (((cell_far (p := ⟨gb510, _, none⟩) NB460_510.out _).trans (((cell_far (p := ⟨gb510, _, none⟩) NB460_510.out _).trans (((cell_far (p := ⟨gb510, _, none⟩) NB460_510.out _).trans (hHeld.2.2.2.2.2))))))))))))⟩ (fun hHeld => ?_)
          clear hK K
          refine pure_ (i := 8) (N := some 10) (v := ?_) (a' := ?_) #[true, true, true, true, true, true, true, true, true] rfl rfl (any_of HT_.out (by kernel_rfl)) (fun _ _ _ h => h) (Or.inl ⟨by rfl, ?_⟩) ?_ ?_
          rotate_left
          ·intro w'
           go_simp
           with_reducible rfl
          rotate_left
          ·simp only [Act.put, List.setIfInBounds_toArray, List.set_cons_zero, List.set_cons_succ, i64_w, i32_w]
           rfl
          refine done_ (done_of HT_.out (by kernel_rfl)) ?_
          try go_wp2
          have n0_ : Aside0 (((((((w73.setCell ⟨gb510, 0, none⟩ (.int .i64 t503)).setCell ⟨gb510, 1, none⟩ (.int .i64 t504)).setCell ⟨gb510, 2, none⟩ (.int .i64 t505)).setCell ⟨gb510, 3, none⟩ (.int .i64 t506)).setCell ⟨gb510, 4, none⟩ (.string t507)).setCell ⟨gb510, 5, none⟩ (.string t508)).heap[gb460]? = some (.cells #[.int .i64 x461000_1, .int .i64 x461001_1, .int .i64 x461002_1, .int .i64 x461003_1, .string x461004_1, .string x461005_1] 26 (0, 0))) := ⟨by (with_reducible repeat (first | refine blk_drewN ?_ _ | refine blk_drew ?_ | refine blk_alloc ?_ _)); refine blk_far ?_ NB460_510.out _; (with_reducible repeat (first | refine blk_drewN ?_ _ | refine blk_drew ?_ | refine blk_alloc ?_ _)); refine blk_far ?_ NB460_510.out _; (with_reducible repeat (first | refine blk_drewN ?_ _ | refine blk_drew ?_ | refine blk_alloc ?_ _)); refine blk_far ?_ NB460_510.out _; (with_reducible repeat (first | refine blk_drewN ?_ _ | refine blk_drew ?_ | refine blk_alloc ?_ _)); refine blk_far ?_ NB460_510.out _; (with_reducible repeat (first | refine blk_drewN ?_ _ | refine blk_drew ?_ | refine blk_alloc ?_ _)); refine blk_far ?_ NB460_510.out _; (with_reducible repeat (first | refine blk_drewN ?_ _ | refine blk_drew ?_ | refine blk_alloc ?_ _)); refine blk_far ?_ NB460_510.out _; (with_reducible repeat (first | refine blk_drewN ?_ _ | refine blk_drew ?_ | refine blk_alloc ?_ _)); exact BK460.out⟩
          have n1_ : Aside0 (((((((w73.setCell ⟨gb510, 0, none⟩ (.int .i64 t503)).setCell ⟨gb510, 1, none⟩ (.int .i64 t504)).setCell ⟨gb510, 2, none⟩ (.int .i64 t505)).setCell ⟨gb510, 3, none⟩ (.int .i64 t506)).setCell ⟨gb510, 4, none⟩ (.string t507)).setCell ⟨gb510, 5, none⟩ (.string t508)).heap[gb496]? = some (.cells #[.int .i64 t489, .int .i64 t490, .int .i64 t491, .int .i64 t492, .string t493, .string t494] 26 (0, 0))) := ⟨by (with_reducible repeat (first | refine blk_drewN ?_ _ | refine blk_drew ?_ | refine blk_alloc ?_ _)); refine blk_far ?_ NB496_510.out _; (with_reducible repeat (first | refine blk_drewN ?_ _ | refine blk_drew ?_ | refine blk_alloc ?_ _)); refine blk_far ?_ NB496_510.out _; (with_reducible repeat (first | refine blk_drewN ?_ _ | refine blk_drew ?_ | refine blk_alloc ?_ _)); refine blk_far ?_ NB496_510.out _; (with_reducible repeat (first | refine blk_drewN ?_ _ | refine blk_drew ?_ | refine blk_alloc ?_ _)); refine blk_far ?_ NB496_510.out _; (with_reducible repeat (first | refine blk_drewN ?_ _ | refine blk_drew ?_ | refine blk_alloc ?_ _)); refine blk_far ?_ NB496_510.out _; (with_reducible repeat (first | refine blk_drewN ?_ _ | refine blk_drew ?_ | refine blk_alloc ?_ _)); refine blk_far ?_ NB496_510.out _; (with_reducible repeat (first | refine blk_drewN ?_ _ | refine blk_drew ?_ | refine blk_alloc ?_ _)); exact BK496.out⟩
          have n2_ : Aside0 (((((((w73.setCell ⟨gb510, 0, none⟩ (.int .i64 t503)).setCell ⟨gb510, 1, none⟩ (.int .i64 t504)).setCell ⟨gb510, 2, none⟩ (.int .i64 t505)).setCell ⟨gb510, 3, none⟩ (.int .i64 t506)).setCell ⟨gb510, 4, none⟩ (.string t507)).setCell ⟨gb510, 5, none⟩ (.string t508)).heap[gb510]? = some (.cells #[.int .i64 t503, .int .i64 t504, .int .i64 t505, .int .i64 t506, .string t507, .string t508] 26 (0, 0))) := ⟨by (with_reducible repeat (first | refine blk_drewN ?_ _ | refine blk_drew ?_ | refine blk_alloc ?_ _)); refine blk_put (cs := #[.int .i64 t503, .int .i64 t504, .int .i64 t505, .int .i64 t506, .string t507, .string (⟨#[]⟩ : ByteArray)]) ?_ 5 _ rfl; (with_reducible repeat (first | refine blk_drewN ?_ _ | refine blk_drew ?_ | refine blk_alloc ?_ _)); refine blk_put (cs := #[.int .i64 t503, .int .i64 t504, .int .i64 t505, .int .i64 t506, .string (⟨#[]⟩ : ByteArray), .string (⟨#[]⟩ : ByteArray)]) ?_ 4 _ rfl; (with_reducible repeat (first | refine blk_drewN ?_ _ | refine blk_drew ?_ | refine blk_alloc ?_ _)); refine blk_put (cs := #[.int .i64 t503, .int .i64 t504, .int .i64 t505, .int .i64 0, .string (⟨#[]⟩ : ByteArray), .string (⟨#[]⟩ : ByteArray)]) ?_ 3 _ rfl; (with_reducible repeat (first | refine blk_drewN ?_ _ | refine blk_drew ?_ | refine blk_alloc ?_ _)); refine blk_put (cs := #[.int .i64 t503, .int .i64 t504, .int .i64 0, .int .i64 0, .string (⟨#[]⟩ : ByteArray), .string (⟨#[]⟩ : ByteArray)]) ?_ 2 _ rfl; (with_reducible repeat (first | refine blk_drewN ?_ _ | refine blk_drew ?_ | refine blk_alloc ?_ _)); refine blk_put (cs := #[.int .i64 t503, .int .i64 0, .int .i64 0, .int .i64 0, .string (⟨#[]⟩ : ByteArray), .string (⟨#[]⟩ : ByteArray)]) ?_ 1 _ rfl; (with_reducible repeat (first | refine blk_drewN ?_ _ | refine blk_drew ?_ | refine blk_alloc ?_ _)); refine blk_put (cs := #[.int .i64 0, .int .i64 0, .int .i64 0, .int .i64 0, .string (⟨#[]⟩ : ByteArray), .string (⟨#[]⟩ : ByteArray)]) ?_ 0 _ rfl; (with_reducible repeat (first | refine blk_drewN ?_ _ | refine blk_drew ?_ | refine blk_alloc ?_ _)); exact BK510.out⟩
          have n3_ : Aside0 (Below w.heap.size w ((((((w73.setCell ⟨gb510, 0, none⟩ (.int .i64 t503)).setCell ⟨gb510, 1, none⟩ (.int .i64 t504)).setCell ⟨gb510, 2, none⟩ (.int .i64 t505)).setCell ⟨gb510, 3, none⟩ (.int .i64 t506)).setCell ⟨gb510, 4, none⟩ (.string t507)).setCell ⟨gb510, 5, none⟩ (.string t508))) := ⟨by repeat (first | (with_reducible first | exact HB.out | apply below_alloc | apply pw_below_drewN | apply below_drew1 | refine below_set ?_ GE460.out | refine below_set ?_ GE496.out | refine below_set ?_ GE510.out) | exact HB.out)⟩
          (try clear BK460)
          (try clear BK496)
          (try clear BK510)
          (try clear HB)
          generalize ((((((w73.setCell ⟨gb510, 0, none⟩ (.int .i64 t503)).setCell ⟨gb510, 1, none⟩ (.int .i64 t504)).setCell ⟨gb510, 2, none⟩ (.int .i64 t505)).setCell ⟨gb510, 3, none⟩ (.int .i64 t506)).setCell ⟨gb510, 4, none⟩ (.string t507)).setCell ⟨gb510, 5, none⟩ (.string t508)) = w80 at n0_ n1_ n2_ n3_ ⊢
          have BK460 := n0_
          have BK496 := n1_
          have BK510 := n2_
          have HB := n3_
          clear n0_ n1_ n2_ n3_
          have n0_ := Aside0.mk (blk_drew BK460.out)
          have n1_ := Aside0.mk (blk_drew BK496.out)
          have n2_ := Aside0.mk (blk_drew BK510.out)
          have n3_ := Aside0.mk (below_drew1 HB.out)
          clear BK460
          clear BK496
          clear BK510
          clear HB
          have BK460 := n0_
          have BK496 := n1_
          have BK510 := n2_
          have HB := n3_
          clear n0_ n1_ n2_ n3_
          refine start_ (n := 23) (S := fun w' => w'.cell? ⟨gb496, 0, none⟩ = some (.int .i64 t489) ∧ w'.cell? ⟨gb496, 1, none⟩ = some (.int .i64 t490) ∧ w'.cell? ⟨gb496, 2, none⟩ = some (.int .i64 t491) ∧ w'.cell? ⟨gb496, 3, none⟩ = some (.int .i64 t492) ∧ w'.cell? ⟨gb496, 4, none⟩ = some (.string t493) ∧ w'.cell? ⟨gb496, 5, none⟩ = some (.string t494) ∧ w'.cell? ⟨gb460, 0, none⟩ = some (.int .i64 x461000_1) ∧ w'.cell? ⟨gb460, 1, none⟩ = some (.int .i64 x461001_1) ∧ w'.cell? ⟨gb460, 2, none⟩ = some (.int .i64 x461002_1) ∧ w'.cell? ⟨gb460, 3, none⟩ = some (.int .i64 x461003_1) ∧ w'.cell? ⟨gb460, 4, none⟩ = some (.string x461004_1) ∧ w'.cell? ⟨gb460, 5, none⟩ = some (.string x461005_1) ∧ w'.cell? ⟨gb510, 0, none⟩ = some (.int .i64 t503) ∧ w'.cell? ⟨gb510, 1, none⟩ = some (.int .i64 t504) ∧ w'.cell? ⟨gb510, 2, none⟩ = some (.int .i64 t505) ∧ w'.cell? ⟨gb510, 3, none⟩ = some (.int .i64 t506) ∧ w'.cell? ⟨gb510, 4, none⟩ = some (.string t507) ∧ w'.cell? ⟨gb510, 5, none⟩ = some (.string t508)) (ds := []) #[false, false, false, false, false, false, false, false, false, false, false, false, false, false, false, false, false, false, false, false, false, false, false] (by kernel_rfl) rfl rfl ⟨(blk_cell BK496.out 0).trans rfl, (blk_cell BK496.out 1).trans rfl, (blk_cell BK496.out 2).trans rfl, (blk_cell BK496.out 3).trans rfl, (blk_cell BK496.out 4).trans rfl, (blk_cell BK496.out 5).trans rfl, (blk_cell BK460.out 0).trans rfl, (blk_cell BK460.out 1).trans rfl, (blk_cell BK460.out 2).trans rfl, (blk_cell BK460.out 3).trans rfl, (blk_cell BK460.out 4).trans rfl, (blk_cell BK460.out 5).trans rfl, (blk_cell BK510.out 0).trans rfl, (blk_cell BK510.out 1).trans rfl, (blk_cell BK510.out 2).trans rfl, (blk_cell BK510.out 3).trans rfl, (blk_cell BK510.out 4).trans rfl, (blk_cell BK510.out 5).trans rfl⟩ (fun hHeld => ?_); refine with_tabW galleylaw05_WeldBytes.tab16 galleylaw05_WeldBytes.bits16 (fun HT_ HW_ => ?_)
          generalize w80.drew = w81 at BK460 BK496 BK510 HB hHeld ⊢
          refine pure_ (i := 0) (N := some 62) (v := ?_) (a' := ?_) #[true, false, false, false, false, false, false, false, false, false, false, false, false, false, false, false, false, false, false, false, false, false, false] rfl rfl (any_of HT_.out (by kernel_rfl)) (fun _ _ _ h => h) (Or.inl ⟨by rfl, ?_⟩) ?_ ?_
          rotate_left
          ·intro w'
           go_simp
           with_reducible rfl
          rotate_left
          ·simp only [Act.put, List.setIfInBounds_toArray, List.set_cons_zero, List.set_cons_succ, i64_w, i32_w]
           rfl
          refine pure_ (i := 1) (N := some 63) (v := ?_) (a' := ?_) #[true, true, false, false, false, false, false, false, false, false, false, false, false, false, false, false, false, false, false, false, false, false, false] rfl rfl (any_of HT_.out (by kernel_rfl)) (fun _ _ _ h => h) (Or.inl ⟨by rfl, ?_⟩) ?_ ?_
          rotate_left
          ·intro w'
           go_simp
           with_reducible rfl
          rotate_left
          ·simp only [Act.put, List.setIfInBounds_toArray, List.set_cons_zero, List.set_cons_succ, i64_w, i32_w]
           rfl
          refine pure_ (i := 2) (N := some 64) (v := ?_) (a' := ?_) #[true, true, true, false, false, false, false, false, false, false, false, false, false, false, false, false, false, false, false, false, false, false, false] rfl rfl (any_of HT_.out (by kernel_rfl)) (fun _ _ _ h => h) (Or.inl ⟨by rfl, ?_⟩) ?_ ?_
          rotate_left
          ·intro w'
           go_simp
           with_reducible rfl
          rotate_left
          ·simp only [Act.put, List.setIfInBounds_toArray, List.set_cons_zero, List.set_cons_succ, i64_w, i32_w]
           rfl
          refine pure_ (i := 3) (N := some 65) (v := ?_) (a' := ?_) #[true, true, true, true, false, false, false, false, false, false, false, false, false, false, false, false, false, false, false, false, false, false, false] rfl rfl (any_of HT_.out (by kernel_rfl)) (fun _ _ _ h => h) (Or.inl ⟨by rfl, ?_⟩) ?_ ?_
          rotate_left
          ·intro w'
           go_simp
           with_reducible rfl
          rotate_left
          ·simp only [Act.put, List.setIfInBounds_toArray, List.set_cons_zero, List.set_cons_succ, i64_w, i32_w]
           rfl
          refine pure_ (i := 4) (N := some 66) (v := ?_) (a' := ?_) #[true, true, true, true, true, false, false, false, false, false, false, false, false, false, false, false, false, false, false, false, false, false, false] rfl rfl (any_of HT_.out (by kernel_rfl)) (fun _ _ _ h => h) (Or.inl ⟨by rfl, ?_⟩) ?_ ?_
          rotate_left
          ·intro w'
           go_simp
           with_reducible rfl
          rotate_left
          ·simp only [Act.put, List.setIfInBounds_toArray, List.set_cons_zero, List.set_cons_succ, i64_w, i32_w]
           rfl
          refine pure_ (i := 5) (N := some 67) (v := ?_) (a' := ?_) #[true, true, true, true, true, true, false, false, false, false, false, false, false, false, false, false, false, false, false, false, false, false, false] rfl rfl (any_of HT_.out (by kernel_rfl)) (fun _ _ _ h => h) (Or.inl ⟨by rfl, ?_⟩) ?_ ?_
          rotate_left
          ·intro w'
           go_simp
           with_reducible rfl
          rotate_left
          ·simp only [Act.put, List.setIfInBounds_toArray, List.set_cons_zero, List.set_cons_succ, i64_w, i32_w]
           rfl
          refine pure_ (i := 6) (N := some 68) (v := ?_) (a' := ?_) #[true, true, true, true, true, true, true, false, false, false, false, false, false, false, false, false, false, false, false, false, false, false, false] rfl rfl (any_of HT_.out (by kernel_rfl)) (fun _ _ _ h => h) (Or.inl ⟨by rfl, ?_⟩) ?_ ?_
          rotate_left
          ·intro w'
           go_simp
           with_reducible rfl
          rotate_left
          ·simp only [Act.put, List.setIfInBounds_toArray, List.set_cons_zero, List.set_cons_succ, i64_w, i32_w]
           rfl
          refine take_ (i := 7) (N := some 69) (v := ?_) (a' := ?_) #[true, true, true, true, true, true, true, true, false, false, false, false, false, false, false, false, false, false, false, false, false, false, false] rfl rfl (take_ofW HT_.out HW_.out (by kernel_rfl)) (fun _ _ _ h => h) (Or.inl ⟨by rfl, ?_⟩) hHeld ?_ ?_
          rotate_left
          ·rintro w' ⟨s0, s1, s2, s3, s4, s5, s6, s7, s8, s9, s10, s11, s12, s13, s14, s15, s16, s17⟩
           go_simp
           with_reducible rfl
          rotate_left
          ·simp only [Act.put, List.setIfInBounds_toArray, List.set_cons_zero, List.set_cons_succ, i64_w, i32_w]
           rfl
          refine take_ (i := 8) (N := some 70) (v := ?_) (a' := ?_) #[true, true, true, true, true, true, true, true, true, false, false, false, false, false, false, false, false, false, false, false, false, false, false] rfl rfl (take_ofW HT_.out HW_.out (by kernel_rfl)) (fun _ _ _ h => h) (Or.inl ⟨by rfl, ?_⟩) hHeld ?_ ?_
          rotate_left
          ·rintro w' ⟨s0, s1, s2, s3, s4, s5, s6, s7, s8, s9, s10, s11, s12, s13, s14, s15, s16, s17⟩
           go_simp
           with_reducible rfl
          rotate_left
          ·simp only [Act.put, List.setIfInBounds_toArray, List.set_cons_zero, List.set_cons_succ, i64_w, i32_w]
           rfl
          refine pure_ (i := 9) (N := some 71) (v := ?_) (a' := ?_) #[true, true, true, true, true, true, true, true, true, true, false, false, false, false, false, false, false, false, false, false, false, false, false] rfl rfl (any_of HT_.out (by kernel_rfl)) (fun _ _ _ h => h) (Or.inl ⟨by rfl, ?_⟩) ?_ ?_
          rotate_left
          ·intro w'
           go_simp
           with_reducible rfl
          rotate_left
          ·simp only [Act.put, List.setIfInBounds_toArray, List.set_cons_zero, List.set_cons_succ, i64_w, i32_w]
           rfl
          refine pure_ (i := 10) (N := some 72) (v := ?_) (a' := ?_) #[true, true, true, true, true, true, true, true, true, true, true, false, false, false, false, false, false, false, false, false, false, false, false] rfl rfl (any_of HT_.out (by kernel_rfl)) (fun _ _ _ h => h) (Or.inl ⟨by rfl, ?_⟩) ?_ ?_
          rotate_left
          ·intro w'
           go_simp
           with_reducible rfl
          rotate_left
          ·simp only [Act.put, List.setIfInBounds_toArray, List.set_cons_zero, List.set_cons_succ, i64_w, i32_w]
           rfl
          refine pure_ (i := 11) (N := some 73) (v := ?_) (a' := ?_) #[true, true, true, true, true, true, true, true, true, true, true, true, false, false, false, false, false, false, false, false, false, false, false] rfl rfl (any_of HT_.out (by kernel_rfl)) (fun _ _ _ h => h) (Or.inl ⟨by rfl, ?_⟩) ?_ ?_
          rotate_left
          ·intro w'
           go_simp
           with_reducible rfl
          rotate_left
          ·simp only [Act.put, List.setIfInBounds_toArray, List.set_cons_zero, List.set_cons_succ, i64_w, i32_w]
           rfl
          refine take_ (i := 12) (N := some 74) (v := ?_) (a' := ?_) #[true, true, true, true, true, true, true, true, true, true, true, true, true, false, false, false, false, false, false, false, false, false, false] rfl rfl (take_ofW HT_.out HW_.out (by kernel_rfl)) (fun _ _ _ h => h) (Or.inl ⟨by rfl, ?_⟩) hHeld ?_ ?_
          rotate_left
          ·rintro w' ⟨s0, s1, s2, s3, s4, s5, s6, s7, s8, s9, s10, s11, s12, s13, s14, s15, s16, s17⟩
           go_simp
           with_reducible rfl
          rotate_left
          ·simp only [Act.put, List.setIfInBounds_toArray, List.set_cons_zero, List.set_cons_succ, i64_w, i32_w]
           rfl
          refine take_ (i := 13) (N := some 75) (v := ?_) (a' := ?_) #[true, true, true, true, true, true, true, true, true, true, true, true, true, true, false, false, false, false, false, false, false, false, false] rfl rfl (take_ofW HT_.out HW_.out (by kernel_rfl)) (fun _ _ _ h => h) (Or.inl ⟨by rfl, ?_⟩) hHeld ?_ ?_
          rotate_left
          ·rintro w' ⟨s0, s1, s2, s3, s4, s5, s6, s7, s8, s9, s10, s11, s12, s13, s14, s15, s16, s17⟩
           go_simp
           with_reducible rfl
          rotate_left
          ·simp only [Act.put, List.setIfInBounds_toArray, List.set_cons_zero, List.set_cons_succ, i64_w, i32_w]
           rfl
          refine pure_ (i := 14) (N := some 76) (v := ?_) (a' := ?_) #[true, true, true, true, true, true, true, true, true, true, true, true, true, true, true, false, false, false, false, false, false, false, false] rfl rfl (any_of HT_.out (by kernel_rfl)) (fun _ _ _ h => h) (Or.inl ⟨by rfl, ?_⟩) ?_ ?_
          rotate_left
          ·intro w'
           go_simp
           with_reducible rfl
          rotate_left
          ·simp only [Act.put, List.setIfInBounds_toArray, List.set_cons_zero, List.set_cons_succ, i64_w, i32_w]
           rfl
          refine pure_ (i := 15) (N := some 77) (v := ?_) (a' := ?_) #[true, true, true, true, true, true, true, true, true, true, true, true, true, true, true, true, false, false, false, false, false, false, false] rfl rfl (any_of HT_.out (by kernel_rfl)) (fun _ _ _ h => h) (Or.inl ⟨by rfl, ?_⟩) ?_ ?_
          rotate_left
          ·intro w'
           go_simp
           with_reducible rfl
          rotate_left
          ·simp only [Act.put, List.setIfInBounds_toArray, List.set_cons_zero, List.set_cons_succ, i64_w, i32_w]
           rfl
          refine pure_ (i := 16) (N := some 78) (v := ?_) (a' := ?_) #[true, true, true, true, true, true, true, true, true, true, true, true, true, true, true, true, true, false, false, false, false, false, false] rfl rfl (any_of HT_.out (by kernel_rfl)) (fun _ _ _ h => h) (Or.inl ⟨by rfl, ?_⟩) ?_ ?_
          rotate_left
          ·intro w'
           go_simp
           with_reducible rfl
          rotate_left
          ·simp only [Act.put, List.setIfInBounds_toArray, List.set_cons_zero, List.set_cons_succ, i64_w, i32_w]
           rfl
          refine pure_ (i := 18) (N := some 80) (v := ?_) (a' := ?_) #[true, true, true, true, true, true, true, true, true, true, true, true, true, true, true, true, true, false, true, false, false, false, false] rfl rfl (any_of HT_.out (by kernel_rfl)) (fun _ _ _ h => h) (Or.inl ⟨by rfl, ?_⟩) ?_ ?_
          rotate_left
          ·intro w'
           go_simp
           with_reducible rfl
          rotate_left
          ·simp only [Act.put, List.setIfInBounds_toArray, List.set_cons_zero, List.set_cons_succ, i64_w, i32_w]
           rfl
          refine take_ (i := 17) (N := some 79) (v := ?_) (a' := ?_) #[true, true, true, true, true, true, true, true, true, true, true, true, true, true, true, true, true, true, true, false, false, false, false] rfl rfl (take_ofW HT_.out HW_.out (by kernel_rfl)) (fun _ _ _ h => h) (Or.inl ⟨by rfl, ?_⟩) hHeld ?_ ?_
          rotate_left
          ·rintro w' ⟨s0, s1, s2, s3, s4, s5, s6, s7, s8, s9, s10, s11, s12, s13, s14, s15, s16, s17⟩
           go_simp
           with_reducible rfl
          rotate_left
          ·simp only [Act.put, List.setIfInBounds_toArray, List.set_cons_zero, List.set_cons_succ, i64_w, i32_w]
           rfl
          refine one_ (i := 19) (N := some 81) #[true, true, true, true, true, true, true, true, true, true, true, true, true, true, true, true, true, true, true, true, false, false, false] rfl rfl (one_of HT_.out (by kernel_rfl)) (by decide) (fun K hK => ?_)
          refine goes_ Tryd.func12 (by kernel_rfl) rfl #[.slice A0 l0.length c0] (by rfl) rfl rfl (by (try simp only [List.map_toArray, List.map_cons, List.map_nil]); first | done | rfl | (simp only [List.length_drop, List.length_take]; rfl)) ?_
          with_reducible refine (weld_Of.calls _ _ l0 t511 t512 t513 t514 t515 t516 _ ?side1 ?side2 ?side3 A56.out).mono ?_
          (case side1 => first | (with_reducible exact HG.out) | exact Glob.Globs_below HG.out (by repeat (first | (with_reducible first | exact HB.out | apply below_alloc | apply pw_below_drewN | apply below_drew1 | refine below_set ?_ GE460.out | refine below_set ?_ GE496.out | refine below_set ?_ GE510.out) | exact HB.out)))
          (case side2 => repeat (first | exact (Kd.C_below HR0.out HB.out) | (with_reducible refine Kd.C_alloc ?_ _) | (with_reducible refine Kd.C_drewN ?_ _) | (with_reducible refine Kd.C_drew ?_)))
          (case side3 => exact HC0.out)
          rintro e w82 ⟨rfl, hb⟩
          refine ⟨_, rfl, ?_⟩
          have n0_ := Aside0.mk (blk_below (g := gb460) (o := .cells #[.int .i64 x461000_1, .int .i64 x461001_1, .int .i64 x461002_1, .int .i64 x461003_1, .string x461004_1, .string x461005_1] 26 (0, 0)) (by (with_reducible repeat (first | refine blk_drewN ?_ _ | refine blk_drew ?_ | refine blk_alloc ?_ _)); exact BK460.out) hb)
          have n1_ := Aside0.mk (blk_below (g := gb496) (o := .cells #[.int .i64 t489, .int .i64 t490, .int .i64 t491, .int .i64 t492, .string t493, .string t494] 26 (0, 0)) (by (with_reducible repeat (first | refine blk_drewN ?_ _ | refine blk_drew ?_ | refine blk_alloc ?_ _)); exact BK496.out) hb)
          have n2_ := Aside0.mk (blk_below (g := gb510) (o := .cells #[.int .i64 t503, .int .i64 t504, .int .i64 t505, .int .i64 t506, .string t507, .string t508] 26 (0, 0)) (by (with_reducible repeat (first | refine blk_drewN ?_ _ | refine blk_drew ?_ | refine blk_alloc ?_ _)); exact BK510.out) hb)
          have n3_ := Aside0.mk (below_step (by repeat (first | (with_reducible first | exact HB.out | apply below_alloc | apply pw_below_drewN | apply below_drew1 | refine below_set ?_ GE460.out | refine below_set ?_ GE496.out | refine below_set ?_ GE510.out) | exact HB.out)) hb)
          clear BK460
          clear BK496
          clear BK510
          clear HB
          have BK460 := n0_
          have BK496 := n1_
          have BK510 := n2_
          have HB := n3_
          clear n0_ n1_ n2_ n3_
          (try clear hb)
          (try clear hb2)
          (try clear hk)
          (try clear hi)
          refine hK.out _ _ ⟨(blk_cell BK496.out 0).trans rfl, (blk_cell BK496.out 1).trans rfl, (blk_cell BK496.out 2).trans rfl, (blk_cell BK496.out 3).trans rfl, (blk_cell BK496.out 4).trans rfl, (blk_cell BK496.out 5).trans rfl, (blk_cell BK460.out 0).trans rfl, (blk_cell BK460.out 1).trans rfl, (blk_cell BK460.out 2).trans rfl, (blk_cell BK460.out 3).trans rfl, (blk_cell BK460.out 4).trans rfl, (blk_cell BK460.out 5).trans rfl, (blk_cell BK510.out 0).trans rfl, (blk_cell BK510.out 1).trans rfl, (blk_cell BK510.out 2).trans rfl, (blk_cell BK510.out 3).trans rfl, (blk_cell BK510.out 4).trans rfl, (blk_cell BK510.out 5).trans rfl⟩ (fun hHeld => ?_)
          clear hK K
          refine norm_ (a' := ?_) ?_ ?_
          rotate_left
          ·show Act.put _ (some 81) _ = _
           simp only [Act.put, List.setIfInBounds_toArray, List.set_cons_zero, List.set_cons_succ, i64_w, i32_w]
           rfl
          refine pure_ (i := 20) (N := some 82) (v := ?_) (a' := ?_) #[true, true, true, true, true, true, true, true, true, true, true, true, true, true, true, true, true, true, true, true, true, false, false] rfl rfl (any_of HT_.out (by kernel_rfl)) (fun _ _ _ h => h) (Or.inl ⟨by rfl, ?_⟩) ?_ ?_
          rotate_left
          ·intro w'
           go_simp
           with_reducible rfl
          rotate_left
          ·simp only [Act.put, List.setIfInBounds_toArray, List.set_cons_zero, List.set_cons_succ, i64_w, i32_w]
           rfl
          refine pure_ (i := 21) (N := some 83) (v := ?_) (a' := ?_) #[true, true, true, true, true, true, true, true, true, true, true, true, true, true, true, true, true, true, true, true, true, true, false] rfl rfl (any_of HT_.out (by kernel_rfl)) (fun _ _ _ h => h) (Or.inl ⟨by rfl, ?_⟩) ?_ ?_
          rotate_left
          ·intro w'
           go_simp
           with_reducible rfl
          rotate_left
          ·simp only [Act.put, List.setIfInBounds_toArray, List.set_cons_zero, List.set_cons_succ, i64_w, i32_w]
           rfl
          refine pure_ (i := 22) (N := some 2) (v := ?_) (a' := ?_) #[true, true, true, true, true, true, true, true, true, true, true, true, true, true, true, true, true, true, true, true, true, true, true] rfl rfl (any_of HT_.out (by kernel_rfl)) (fun _ _ _ h => h) (Or.inl ⟨by rfl, ?_⟩) ?_ ?_
          rotate_left
          ·intro w'
           go_simp
           with_reducible rfl
          rotate_left
          ·simp only [Act.put, List.setIfInBounds_toArray, List.set_cons_zero, List.set_cons_succ, i64_w, i32_w]
           rfl
          refine done_ (done_of HT_.out (by kernel_rfl)) ?_
          try go_wp2
          go_ret
          exact ⟨by first | rfl | (simp [errW_none, errW_some] <;> rfl) | (simp [*, errW_none, errW_some] <;> rfl), by repeat (first | (with_reducible first | exact HB.out | apply below_alloc | apply pw_below_drewN | apply below_drew1 | refine below_set ?_ GE460.out | refine below_set ?_ GE496.out | refine below_set ?_ GE510.out) | exact HB.out)⟩
         ·rw [if_neg c55] at H
          have c55b0 : ((t503 == x461000_1 && (t504 == x461001_1 && (t505 == x461002_1 && (t506 == x461003_1)))) && (t507.toList == x461004_1.toList && (t508.toList == x461005_1.toList))) = false := by simpa using c55
          clear c55
          exact absurd H (by simp)
        ·rw [if_neg c54] at H
         have c54b0 : ((t489 == x461000_1 && (t490 == x461001_1 && (t491 == x461002_1 && (t492 == x461003_1)))) && (t493.toList == x461004_1.toList && (t494.toList == x461005_1.toList))) = false := by simpa using c54
         clear c54
         exact absurd H (by simp)
       ·rw [if_neg c53] at H
        have c53b0 : (t509 == 0) = false := beq_eq_false_iff_ne.mpr c53
        have c53b1 : (t509 != 0) = true := bne_iff_ne.mpr c53
        exact absurd H (by simp)
      ·rw [if_neg c52] at H
       have c52b0 : (t495 == 0) = false := beq_eq_false_iff_ne.mpr c52
       have c52b1 : (t495 != 0) = true := bne_iff_ne.mpr c52
       exact absurd H (by simp)
 ·replace c3 := Bool.eq_false_iff.mpr c3
  subst c3
  have H1 : (none) = some r := by rw [if_neg (show ¬ (false = true) by decide)] at H; exact H
  clear H
  have H := H1
  clear H1
  exact absurd H (by simp)
def galleylaw05_WeldBytes.Pure : Prop := ∀ (l0 : List Int), l0.length ≤ maxLen → l0.length * 1 ≤ 140737488351232 → (∀ x ∈ l0, (Lit.int .u8 x).wf = true) → ∃ k, galleylaw05_WeldBytes.f k l0 = some true
theorem galleylaw05_WeldBytes.walk (P : galleylaw05_WeldBytes.Pure) (a0 : Option Addr) (len0 cap0 : Nat) (z0 : List Int) (w : World) (hG : Glob.Globs w) (w0 : (a0 = none ∧ len0 = 0 ∧ cap0 = 0 ∧ z0 = []) ∨ ∃ x, a0 = some x ∧ len0 ≤ cap0 ∧ cap0 ≤ maxLen ∧ z0.length = cap0 ∧ (∀ i, i < z0.length → w.cell? (x.add i) = some (.int .u8 (z0.getD i 0))) ∧ ∀ n ∈ z0, (Lit.int .u8 n).wf = true) (y0 : len0 * 1 ≤ 140737488351232) :
  Calls Tryd.prog 7 #[.slice a0 len0 cap0] w fun e w' => e = .returned (.bool true) ∧ Below w.heap.size w w' := by
 obtain ⟨l0, rfl, hr0, hm0, hw0, hc0⟩ := ReadsInt.ofRowC w0
 obtain ⟨k, h⟩ := P l0 hm0 y0 hw0
 refine (galleylaw05_WeldBytes.calls k _ _ l0 true w hG (Kd.C_of_reads (d := (0 : Int)) (h1 := fun _ => rfl) hr0) hc0 h).mono ?_
 rintro e w' ⟨rfl, hd⟩
 exact ⟨rfl, hd⟩
end Go.Proofs.YtaojbcplmdjfnaaDoor.Pr

namespace Go.Proofs.YtaojbcplmdjfnaaDoor.Math
open Go.RowKit
set_option linter.unusedVariables false
set_option linter.unusedSimpArgs false
def Byt (l : List Int) : Prop := ∀ x ∈ l, 0 ≤ x ∧ x ≤ 255
theorem Byt.of_wf {l : List Int} (h : ∀ x ∈ l, (Lit.int .u8 x).wf = true) : Byt l := fun x hx => bounds_u8 (h x hx)
def cls (b : Int) : Int := if b < 128 then 1 else if b < 192 then 2 else if b < 194 then 6 else if b < 224 then 3 else if b < 240 then 4 else if b < 245 then 5 else 6
def need (b : Int) : Int := if b < 128 then 1 else if b < 194 then 0 else if b < 224 then 2 else if b < 240 then 3 else if b < 245 then 4 else 0
def sec (a b : Int) : Bool :=
  if a = 224 then decide (160 ≤ b ∧ b ≤ 191) else if a = 237 then decide (128 ≤ b ∧ b ≤ 159) else if a = 240 then decide (144 ≤ b ∧ b ≤ 191)
  else if a = 244 then decide (128 ≤ b ∧ b ≤ 143) else if need a > 1 then decide (128 ≤ b ∧ b ≤ 191) else false
def tl (b : Int) : Bool := decide (128 ≤ b ∧ b ≤ 191)
def whole : List Int → Bool
  | [x0] => decide (need x0 = 1)
  | [x0, x1] => decide (need x0 = 2) && sec x0 x1
  | [x0, x1, x2] => decide (need x0 = 3) && (sec x0 x1 && tl x2)
  | [x0, x1, x2, x3] => decide (need x0 = 4) && (sec x0 x1 && (tl x2 && tl x3))
  | _ => false
def num : List Int → Int
  | [x0] => x0
  | [x0, x1] => (x0 % 32) * 64 + x1 % 64
  | [x0, x1, x2] => ((x0 % 16) * 64 + x1 % 64) * 64 + x2 % 64
  | [x0, x1, x2, x3] => (((x0 % 8) * 64 + x1 % 64) * 64 + x2 % 64) * 64 + x3 % 64
  | _ => -1
def val (l : List Int) : Int := if whole l = true then num l else -1
def isR (r : Int) : Bool := decide (0 ≤ r ∧ r < 55296 ∨ 57343 < r ∧ r ≤ 1114111)
def enc0 (n : Int) : List Int :=
  if n < 128 then [n] else if n < 2048 then [192 + n / 64, 128 + n % 64] else if n < 65536 then [224 + n / 4096, 128 + n / 64 % 64, 128 + n % 64]
  else [240 + n / 262144, 128 + n / 4096 % 64, 128 + n / 64 % 64, 128 + n % 64]
def enc (r : Int) : List Int := if isR r = true then enc0 r else enc0 65533
theorem need_le (b : Int) : 0 ≤ need b ∧ need b ≤ 4 := by unfold need; (repeat' split) <;> omega
theorem cls_two (b : Int) (h : 0 ≤ b) (h' : b ≤ 255) : cls b = 2 ↔ 128 ≤ b ∧ b ≤ 191 := by unfold cls; (repeat' split) <;> omega
theorem sec_tail {a b : Int} (h : sec a b = true) : 128 ≤ b ∧ b ≤ 191 := by
  unfold sec at h; (repeat' split at h) <;> simp at h <;> omega
theorem wrap64_in' {n : Int} (h : -9223372036854775808 ≤ n) (h' : n ≤ 9223372036854775807) : wrap64 n = n := IntWalk.wrap64_in n ⟨h, h'⟩
theorem wrap32_in' {n : Int} (h : -2147483648 ≤ n) (h' : n ≤ 2147483647) : wrap32 n = n := by unfold wrap32; omega
theorem need_1 {x : Int} (h : x < 128) : need x = 1 := by unfold need; rw [if_pos h]
theorem need_2 {x : Int} (h : 194 ≤ x) (h' : x < 224) : need x = 2 := by unfold need; rw [if_neg (by omega), if_neg (by omega), if_pos h']
theorem need_3 {x : Int} (h : 224 ≤ x) (h' : x < 240) : need x = 3 := by unfold need; rw [if_neg (by omega), if_neg (by omega), if_neg (by omega), if_pos h']
theorem need_4 {x : Int} (h : 240 ≤ x) (h' : x < 245) : need x = 4 := by unfold need; rw [if_neg (by omega), if_neg (by omega), if_neg (by omega), if_neg (by omega), if_pos h']
theorem sec_iff (a b : Int) : sec a b = true ↔ (need a > 1 ∧ 128 ≤ b ∧ b ≤ 191 ∧ (a = 224 → 160 ≤ b) ∧ (a = 237 → b ≤ 159) ∧ (a = 240 → 144 ≤ b) ∧ (a = 244 → b ≤ 143)) := by
  unfold sec
  by_cases h1 : a = 224
  · subst h1; simp [need]; omega
  by_cases h2 : a = 237
  · subst h2; simp [need]; omega
  by_cases h3 : a = 240
  · subst h3; simp [need]; omega
  by_cases h4 : a = 244
  · subst h4; simp [need]; omega
  by_cases h5 : need a > 1 <;> simp [h1, h2, h3, h4, h5]
theorem tl_iff (b : Int) : tl b = true ↔ 128 ≤ b ∧ b ≤ 191 := by unfold tl; simp
end Go.Proofs.YtaojbcplmdjfnaaDoor.Math

namespace Go.Proofs.YtaojbcplmdjfnaaDoor.Math
set_option linter.unusedVariables false
set_option linter.unusedSimpArgs false
def lgT (x y z w : Int) : Nat :=
  if 0 ≤ x ∧ x ≤ 127 then 1
  else if (194 ≤ x ∧ x ≤ 223) ∧ (128 ≤ y ∧ y ≤ 191) then 2
  else if (128 ≤ z ∧ z ≤ 191) ∧ (x = 224 ∧ (160 ≤ y ∧ y ≤ 191) ∨ (225 ≤ x ∧ x ≤ 236) ∧ (128 ≤ y ∧ y ≤ 191) ∨ x = 237 ∧ (128 ≤ y ∧ y ≤ 159) ∨ (238 ≤ x ∧ x ≤ 239) ∧ (128 ≤ y ∧ y ≤ 191)) then 3
  else if ((128 ≤ z ∧ z ≤ 191) ∧ (128 ≤ w ∧ w ≤ 191)) ∧ (x = 240 ∧ (144 ≤ y ∧ y ≤ 191) ∨ (241 ≤ x ∧ x ≤ 243) ∧ (128 ≤ y ∧ y ≤ 191) ∨ x = 244 ∧ (128 ≤ y ∧ y ≤ 143)) then 4
  else 0
def lg : List Int → Nat
  | [] => 0
  | x :: t => lgT x (t.getD 0 (-1)) (t.getD 1 (-1)) (t.getD 2 (-1))
theorem lgT_cases (x y z w : Int) : lgT x y z w = 0 ∨ (lgT x y z w = 1 ∧ 0 ≤ x ∧ x ≤ 127) ∨ (lgT x y z w = 2 ∧ 194 ≤ x ∧ x ≤ 223 ∧ 128 ≤ y ∧ y ≤ 191) ∨ (lgT x y z w = 3 ∧ 224 ≤ x ∧ x ≤ 239 ∧ 128 ≤ y ∧ y ≤ 191 ∧ 128 ≤ z ∧ z ≤ 191) ∨
    (lgT x y z w = 4 ∧ 240 ≤ x ∧ x ≤ 244 ∧ 128 ≤ y ∧ y ≤ 191 ∧ 128 ≤ z ∧ z ≤ 191 ∧ 128 ≤ w ∧ w ≤ 191) := by
  unfold lgT; (repeat' split) <;> omega
theorem lgT_w {x y z w : Int} (w' : Int) (h : lgT x y z w = 3) : lgT x y z w' = 3 := by
  unfold lgT at *; (repeat' split at h) <;> (repeat' split) <;> omega
theorem lg_le (l : List Int) : lg l ≤ 4 := by
  cases l with
  | nil => simp [lg]
  | cons x t => have := lgT_cases x (t.getD 0 (-1)) (t.getD 1 (-1)) (t.getD 2 (-1)); show lgT _ _ _ _ ≤ 4; omega
theorem lgT_tail {x : Int} (y z w : Int) (h : 128 ≤ x ∧ x ≤ 191) : lgT x y z w = 0 := by have := lgT_cases x y z w; omega
theorem lg_tail {x : Int} (t : List Int) (h : 128 ≤ x ∧ x ≤ 191) : lg (x :: t) = 0 := lgT_tail _ _ _ h
theorem getD_m1 (t : List Int) (k : Nat) (h : t.length ≤ k) : t.getD k (-1) = -1 := by simp [List.getD, List.getElem?_eq_none h]
theorem lg_len (l : List Int) : lg l ≤ l.length := by
  cases l with
  | nil => simp [lg]
  | cons x t =>
    have h := lgT_cases x (t.getD 0 (-1)) (t.getD 1 (-1)) (t.getD 2 (-1))
    have h0 := getD_m1 t 0
    have h1 := getD_m1 t 1
    have h2 := getD_m1 t 2
    show lgT _ _ _ _ ≤ t.length + 1
    omega
theorem lg_tails (l : List Int) (i : Nat) (h1 : 1 ≤ i) (h2 : i < lg l) : 128 ≤ l.getD i (-1) ∧ l.getD i (-1) ≤ 191 := by
  cases l with
  | nil => simp [lg] at h2
  | cons x t =>
    have h := lgT_cases x (t.getD 0 (-1)) (t.getD 1 (-1)) (t.getD 2 (-1))
    have h2' : i < lgT x (t.getD 0 (-1)) (t.getD 1 (-1)) (t.getD 2 (-1)) := h2
    have e : i = 1 ∨ i = 2 ∨ i = 3 := by omega
    rcases e with rfl | rfl | rfl
    · rw [List.getD_cons_succ]; omega
    · rw [List.getD_cons_succ]; omega
    · rw [List.getD_cons_succ]; omega
theorem getD_app (t m : List Int) (k : Nat) (h : k < t.length) : (t ++ m).getD k (-1) = t.getD k (-1) := by simp [List.getD, List.getElem?_append_left h]
theorem lg_append (l m : List Int) (h : 1 ≤ lg l) : lg (l ++ m) = lg l := by
  cases l with
  | nil => simp [lg] at h
  | cons x t =>
    have hl := lg_len (x :: t)
    have g0 := getD_app t m 0
    have g1 := getD_app t m 1
    have g2 := getD_app t m 2
    simp only [lg, List.cons_append, List.length_cons] at *
    generalize t.getD 0 (-1) = y at *
    generalize t.getD 1 (-1) = z at *
    generalize t.getD 2 (-1) = w at *
    generalize (t ++ m).getD 0 (-1) = y' at *
    generalize (t ++ m).getD 1 (-1) = z' at *
    generalize (t ++ m).getD 2 (-1) = w' at *
    have hc := lgT_cases x y z w
    rcases hc with h0 | ⟨e, hx⟩ | ⟨e, hx⟩ | ⟨e, hx⟩ | ⟨e, hx⟩
    · omega
    · rw [e]; unfold lgT; rw [if_pos (by omega)]
    · rw [e] at hl; rw [g0 (by omega), e]; unfold lgT; rw [if_neg (by omega), if_pos (by omega)]
    · rw [e] at hl; rw [g0 (by omega), g1 (by omega), e]; exact lgT_w _ e
    · rw [e] at hl; rw [g0 (by omega), g1 (by omega), g2 (by omega)]
theorem lg_of_append (l m : List Int) (h : 1 ≤ lg (l ++ m)) (h2 : lg (l ++ m) ≤ l.length) : lg l = lg (l ++ m) := by
  cases l with
  | nil => simp only [List.length_nil] at h2; omega
  | cons x t =>
    have g0 := getD_app t m 0
    have g1 := getD_app t m 1
    have g2 := getD_app t m 2
    simp only [lg, List.cons_append, List.length_cons] at *
    generalize t.getD 0 (-1) = y at *
    generalize t.getD 1 (-1) = z at *
    generalize t.getD 2 (-1) = w at *
    generalize (t ++ m).getD 0 (-1) = y' at *
    generalize (t ++ m).getD 1 (-1) = z' at *
    generalize (t ++ m).getD 2 (-1) = w' at *
    have hc := lgT_cases x y' z' w'
    rcases hc with h0 | ⟨e, hx⟩ | ⟨e, hx⟩ | ⟨e, hx⟩ | ⟨e, hx⟩
    · omega
    · rw [e]; unfold lgT; rw [if_pos (by omega)]
    · rw [e] at h2; rw [g0 (by omega)] at hx; rw [e]; unfold lgT; rw [if_neg (by omega), if_pos (by omega)]
    · rw [e] at h2; rw [e]; rw [g0 (by omega), g1 (by omega)] at e; exact lgT_w _ e
    · rw [e] at h2; rw [g0 (by omega), g1 (by omega), g2 (by omega)]
def rho (n : Nat) : Int := if n ≤ 1 then 1 else 2 - n
def rn : List Int → Int
  | [] => 0
  | x :: t => rho (lg (x :: t)) + rn t
def fr : List Int → Int
  | [] => 0
  | x :: t => (if lg (x :: t) = 4 then 1 else 0) + fr t
def en : Int → List Int → Int
  | _, [] => 0
  | p, x :: t => (if x = 13 ∨ (x = 10 ∧ p ≠ 13) then 1 else 0) + en x t
def wd (l : List Int) : Nat := if lg l = 0 then 1 else lg l
def ru (l : List Int) : Int := if lg l = 0 then 65533 else num (l.take (lg l))
theorem wd_pos (l : List Int) : 1 ≤ wd l := by unfold wd; split <;> omega
theorem wd_le (x : Int) (t : List Int) : wd (x :: t) ≤ (x :: t).length := by
  have := lg_len (x :: t)
  unfold wd; split
  · simp
  · exact this
theorem rn_tails (t : List Int) (n : Nat) (h : ∀ i, i < n → 128 ≤ t.getD i (-1) ∧ t.getD i (-1) ≤ 191) : rn t = n + rn (t.drop n) ∧ fr t = fr (t.drop n) ∧ ∀ p, en p t = en (if n = 0 then p else 0) (t.drop n) := by
  induction n generalizing t with
  | zero => exact ⟨by simp, by simp, fun p => by simp⟩
  | succ n ih =>
    cases t with
    | nil => have := h 0 (by omega); simp [List.getD] at this
    | cons x t =>
      have hx := h 0 (by omega)
      simp [List.getD] at hx
      obtain ⟨h1, h2, h3⟩ := ih t (fun i hi => by have := h (i + 1) (by omega); rwa [List.getD_cons_succ] at this)
      have e0 := lg_tail t hx
      refine ⟨?_, ?_, fun p => ?_⟩
      · simp only [rn, e0, rho, List.drop_succ_cons]; rw [h1]; simp; omega
      · simp only [fr, e0, List.drop_succ_cons]; rw [h2]; simp
      · simp only [en, List.drop_succ_cons, if_neg (Nat.succ_ne_zero n)]
        rw [if_neg (by omega), h3 x]
        split
        · rename_i h0; subst h0
          rw [List.drop_zero]
          cases t with
          | nil => rfl
          | cons y t =>
            simp only [en]
            have : x ≠ 13 := by omega
            simp [this]
        · simp
theorem rn_step (x : Int) (t : List Int) : rn (x :: t) = 1 + rn ((x :: t).drop (wd (x :: t))) := by
  have hw : wd (x :: t) = (wd (x :: t) - 1) + 1 := by have := wd_pos (x :: t); omega
  have ht := rn_tails t (wd (x :: t) - 1) (fun i hi => by
    have hl : wd (x :: t) = lg (x :: t) := by unfold wd at hi ⊢; split <;> simp_all
    have := lg_tails (x :: t) (i + 1) (by omega) (by omega)
    rwa [List.getD_cons_succ] at this)
  rw [hw, List.drop_succ_cons]
  simp only [rn]
  rw [ht.1]
  generalize rn (List.drop (wd (x :: t) - 1) t) = R
  have := lg_le (x :: t)
  unfold wd rho
  split <;> split <;> omega
theorem fr_step (x : Int) (t : List Int) : fr (x :: t) = (if lg (x :: t) = 4 then 1 else 0) + fr ((x :: t).drop (wd (x :: t))) := by
  have hw : wd (x :: t) = (wd (x :: t) - 1) + 1 := by have := wd_pos (x :: t); omega
  have ht := rn_tails t (wd (x :: t) - 1) (fun i hi => by
    have hl : wd (x :: t) = lg (x :: t) := by unfold wd at hi ⊢; split <;> simp_all
    have := lg_tails (x :: t) (i + 1) (by omega) (by omega)
    rwa [List.getD_cons_succ] at this)
  rw [hw, List.drop_succ_cons]
  simp only [fr]
  rw [ht.2.1]
theorem ru_facts (x : Int) (t : List Int) (hx : 0 ≤ x) : (ru (x :: t) = 13 ↔ x = 13) ∧ (ru (x :: t) = 10 ↔ x = 10) ∧ (ru (x :: t) > 65535 ↔ lg (x :: t) = 4) ∧ 0 ≤ ru (x :: t) ∧ ru (x :: t) ≤ 1114111 := by
  have hl := lg_len (x :: t)
  have hg : lg (x :: t) = lgT x (t.getD 0 (-1)) (t.getD 1 (-1)) (t.getD 2 (-1)) := rfl
  unfold ru
  rcases lgT_cases x (t.getD 0 (-1)) (t.getD 1 (-1)) (t.getD 2 (-1)) with e | ⟨e, h⟩ | ⟨e, h⟩ | ⟨e, h⟩ | ⟨e, h⟩
  · rw [hg, e, if_pos rfl]
    have : ¬ (0 ≤ x ∧ x ≤ 127) := fun h => by unfold lgT at e; rw [if_pos h] at e; omega
    omega
  · rw [hg, e, if_neg (by omega)]
    simp only [List.take_succ_cons, List.take_zero, num]
    exact ⟨trivial, trivial, ⟨fun h' => by omega, fun h' => by omega⟩, by omega, by omega⟩
  · rw [hg, e] at hl
    rw [hg, e, if_neg (by omega)]
    match t, hl, h, e with
    | y :: t', _, h, e =>
      simp only [List.take_succ_cons, List.take_zero, num, List.getD_cons_zero] at *
      omega
  · rw [hg, e] at hl
    rw [hg, e, if_neg (by omega)]
    match t, hl, h, e with
    | y :: z :: t', _, h, e =>
      simp only [List.take_succ_cons, List.take_zero, num, List.getD_cons_zero, List.getD_cons_succ] at *
      unfold lgT at e
      rw [if_neg (by omega), if_neg (by omega)] at e
      split at e
      · omega
      · split at e <;> omega
    | [_], hl, _, _ => simp at hl
    | [], hl, _, _ => simp at hl
  · rw [hg, e] at hl
    rw [hg, e, if_neg (by omega)]
    match t, hl, h, e with
    | y :: z :: w :: t', _, h, e =>
      simp only [List.take_succ_cons, List.take_zero, num, List.getD_cons_zero, List.getD_cons_succ] at *
      have hx : x % 8 = x - 240 := by omega
      have hy : y % 64 = y - 128 := by omega
      have hz : z % 64 = z - 128 := by omega
      have hw : w % 64 = w - 128 := by omega
      rw [hx, hy, hz, hw]
      unfold lgT at e
      rw [if_neg (by omega), if_neg (by omega), if_neg (by omega)] at e
      split at e
      · exact ⟨⟨fun h' => by omega, fun h' => by omega⟩, ⟨fun h' => by omega, fun h' => by omega⟩, ⟨fun h' => trivial, fun h' => by omega⟩, by omega, by omega⟩
      · omega
    | [_, _], hl, _, _ => simp at hl
    | [_], hl, _, _ => simp at hl
    | [], hl, _, _ => simp at hl
theorem en_step (p : Int) (x : Int) (t : List Int) (hx : 0 ≤ x) : en p (x :: t) = (if ru (x :: t) = 13 ∨ (ru (x :: t) = 10 ∧ p ≠ 13) then 1 else 0) + en (ru (x :: t)) ((x :: t).drop (wd (x :: t))) := by
  obtain ⟨r13, r10, _, _⟩ := ru_facts x t hx
  have hw : wd (x :: t) = (wd (x :: t) - 1) + 1 := by have := wd_pos (x :: t); omega
  have ht := (rn_tails t (wd (x :: t) - 1) (fun i hi => by
    have hl : wd (x :: t) = lg (x :: t) := by unfold wd at hi ⊢; split <;> simp_all
    have := lg_tails (x :: t) (i + 1) (by omega) (by omega)
    rwa [List.getD_cons_succ] at this)).2.2 x
  rw [hw, List.drop_succ_cons]
  simp only [en]
  rw [ht]
  have hif : (if x = 13 ∨ x = 10 ∧ p ≠ 13 then (1 : Int) else 0) = if ru (x :: t) = 13 ∨ ru (x :: t) = 10 ∧ p ≠ 13 then 1 else 0 := by
    simp only [r13, r10]
  rw [hif]
  congr 1
  -- what follows asks of the byte ahead only whether it is 13
  have key : ∀ (u v : Int) (l : List Int), (u = 13 ↔ v = 13) → en u l = en v l := by
    intro u v l h
    cases l with
    | nil => rfl
    | cons y l =>
      simp only [en]
      simp only [ne_eq, h]
  apply key
  split
  · exact r13.symm
  · rename_i hne
    -- the step has two bytes or more: neither is 13
    have h0 : lg (x :: t) ≠ 0 := fun h0 => hne (by unfold wd; rw [if_pos h0])
    have hl : wd (x :: t) = lg (x :: t) := by unfold wd; rw [if_neg h0]
    have := lgT_cases x (t.getD 0 (-1)) (t.getD 1 (-1)) (t.getD 2 (-1))
    have hg : lg (x :: t) = lgT x (t.getD 0 (-1)) (t.getD 1 (-1)) (t.getD 2 (-1)) := rfl
    rw [r13]
    omega
end Go.Proofs.YtaojbcplmdjfnaaDoor.Math

namespace Go.Proofs.YtaojbcplmdjfnaaDoor.Math
open Go.RowKit
set_option linter.unusedVariables false
set_option linter.unusedSimpArgs false
def dcT (X Y Z W : Nat) (n : Nat) : Nat × Nat :=
  if n = 0 then (65533, 1) else if n = 1 then (X, 1) else if n = 2 then (X % 32 * 64 + Y % 64, 2) else if n = 3 then (X % 16 * 4096 + Y % 64 * 64 + Z % 64, 3) else (X % 8 * 262144 + Y % 64 * 4096 + Z % 64 * 64 + W % 64, 4)
set_option maxHeartbeats 4000000 in
theorem dec_core (n X Y Z W : Nat) (y z w : Int) (hX : X < 256) (hY : Y < 256) (hZ : Z < 256) (hW : W < 256) (h1 : 1 < n → y = Y) (h1' : n ≤ 1 → y = -1) (h2 : 2 < n → z = Z) (h2' : n ≤ 2 → z = -1) (h3 : 3 < n → w = W) (h3' : n ≤ 3 → w = -1) :
    Lib.decodeN n X Y Z W = dcT X Y Z W (lgT X y z w) := by
  unfold lgT
  split
  · show _ = (X, 1)
    unfold Lib.decodeN
    rw [if_pos (by omega)]
  split
  · show _ = (X % 32 * 64 + Y % 64, 2)
    unfold Lib.decodeN
    rw [if_neg (by omega), if_pos (by omega), if_pos (by omega)]
  split
  · show _ = (X % 16 * 4096 + Y % 64 * 64 + Z % 64, 3)
    have g1 : 1 < n := by omega
    have g2 : 2 < n := by omega
    have e1 := h1 g1
    have e2 := h2 g2
    unfold Lib.decodeN
    rw [if_neg (by omega), if_neg (by omega), if_pos (by omega), if_pos (by omega)]
  split
  · show _ = (X % 8 * 262144 + Y % 64 * 4096 + Z % 64 * 64 + W % 64, 4)
    have g1 : 1 < n := by omega
    have g2 : 2 < n := by omega
    have g3 : 3 < n := by omega
    have e1 := h1 g1
    have e2 := h2 g2
    have e3 := h3 g3
    have m1 : Y % 64 = Y - 128 := by omega
    have m2 : Z % 64 = Z - 128 := by omega
    have m3 : W % 64 = W - 128 := by omega
    have m0 : X % 8 = X - 240 := by omega
    unfold Lib.decodeN
    rw [if_neg (by omega), if_neg (by omega), if_neg (by omega), if_pos (by omega), m0, m1, m2, m3, if_pos (by omega)]
  · show _ = (65533, 1)
    rename_i c1 c2 c3 c4
    unfold Lib.decodeN
    rw [if_neg (by omega)]
    split
    · rename_i d
      have g1 : 1 < n := d.2.1
      have e1 := h1 g1
      rw [if_neg (by omega)]
    split
    · rename_i _ d
      have g1 : 1 < n := d.2.1.1
      have g2 : 2 < n := d.2.2.1
      have e1 := h1 g1
      have e2 := h2 g2
      rw [if_neg (by omega)]
    split
    · rename_i _ _ d
      have g1 : 1 < n := d.2.1.1
      have g2 : 2 < n := d.2.2.1.1
      have g3 : 3 < n := d.2.2.2.1
      have e1 := h1 g1
      have e2 := h2 g2
      have e3 := h3 g3
      have m1 : Y % 64 = Y - 128 := by omega
      have m2 : Z % 64 = Z - 128 := by omega
      have m3 : W % 64 = W - 128 := by omega
      have m0 : X % 8 = X - 240 := by omega
      rw [m0, m1, m2, m3, if_neg (by omega)]
    · rfl
theorem Byt.drop {l : List Int} (h : Byt l) (n : Nat) : Byt (l.drop n) := fun x hx => h x (List.mem_of_mem_drop hx)
theorem Byt.take {l : List Int} (h : Byt l) (n : Nat) : Byt (l.take n) := fun x hx => h x (List.mem_of_mem_take hx)
theorem Byt.append {l m : List Int} (h : Byt l) (h' : Byt m) : Byt (l ++ m) := fun x hx => (List.mem_append.1 hx).elim (h x) (h' x)
theorem Byt.getD {l : List Int} (h : Byt l) (k : Nat) (hk : k < l.length) (d : Int) : 0 ≤ l.getD k d ∧ l.getD k d ≤ 255 := by
  have e : l.getD k d = l[k] := by simp [List.getD, List.getElem?_eq_getElem hk]
  rw [e]; exact h _ (List.getElem_mem hk)
theorem str_getD (l : List Int) (hb : Byt l) (k : Nat) : (((strOfNums l).data.toList.getD k 0).toNat : Int) = l.getD k 0 := by
  rw [strOfNums_data]
  by_cases hk : k < l.length
  · have := hb.getD k hk 0
    have e : l.getD k 0 = l[k] := by simp [List.getD, List.getElem?_eq_getElem hk]
    simp only [List.getD_eq_getElem?_getD, List.getElem?_map, List.getElem?_eq_getElem hk, Option.map_some, Option.getD_some] at *
    rw [UInt8.toNat_ofNat']
    omega
  · simp [List.getD, List.getElem?_eq_none (Nat.le_of_not_lt hk)]
theorem getD_swap {l : List Int} {k : Nat} (hk : k < l.length) (c d : Int) : l.getD k c = l.getD k d := by simp [List.getD, List.getElem?_eq_getElem hk]
theorem getD_drop' (l : List Int) (p k : Nat) (d : Int) : (l.drop p).getD k d = l.getD (p + k) d := by simp [List.getD, List.getElem?_drop]
theorem decode_eq (l : List Int) (hb : Byt l) (p : Nat) (hp : p < l.length) : ((Utf8.decode (strOfNums l) p).1 : Int) = ru (l.drop p) ∧ (Utf8.decode (strOfNums l) p).2 = wd (l.drop p) := by
  rw [Lib.decode_N]
  have hlen : (strOfNums l).data.toList.length = l.length := by rw [strOfNums_data, List.length_map]
  rw [hlen]
  obtain ⟨x, t, hxt⟩ : ∃ x t, l.drop p = x :: t := by
    cases h : l.drop p with
    | nil => have := congrArg List.length h; simp at this; omega
    | cons x t => exact ⟨x, t, rfl⟩
  have hbt : Byt (x :: t) := hxt ▸ hb.drop p
  have htl : t.length + 1 = l.length - p := by have := congrArg List.length hxt; simp at this; omega
  have gk : ∀ k, l.getD (p + k) 0 = (x :: t).getD k 0 := fun k => by rw [← hxt, getD_drop']
  have s0 := str_getD l hb p
  have s1 := str_getD l hb (p + 1)
  have s2 := str_getD l hb (p + 2)
  have s3 := str_getD l hb (p + 3)
  have g0 := gk 0
  rw [Nat.add_zero] at g0
  rw [g0] at s0
  rw [gk 1] at s1
  rw [gk 2] at s2
  rw [gk 3] at s3
  simp only [List.getD_cons_zero, List.getD_cons_succ] at s0 s1 s2 s3
  have b0 := UInt8.toNat_lt ((strOfNums l).data.toList.getD p 0)
  have b1 := UInt8.toNat_lt ((strOfNums l).data.toList.getD (p + 1) 0)
  have b2 := UInt8.toNat_lt ((strOfNums l).data.toList.getD (p + 2) 0)
  have b3 := UInt8.toNat_lt ((strOfNums l).data.toList.getD (p + 3) 0)
  generalize ((strOfNums l).data.toList.getD p 0).toNat = X at *
  generalize ((strOfNums l).data.toList.getD (p + 1) 0).toNat = Y at *
  generalize ((strOfNums l).data.toList.getD (p + 2) 0).toNat = Z at *
  generalize ((strOfNums l).data.toList.getD (p + 3) 0).toNat = W at *
  rw [dec_core (l.length - p) X Y Z W (t.getD 0 (-1)) (t.getD 1 (-1)) (t.getD 2 (-1)) b0 b1 b2 b3
    (fun h => by rw [s1]; exact getD_swap (by omega) _ _) (fun h => getD_m1 t 0 (by omega))
    (fun h => by rw [s2]; exact getD_swap (by omega) _ _) (fun h => getD_m1 t 1 (by omega))
    (fun h => by rw [s3]; exact getD_swap (by omega) _ _) (fun h => getD_m1 t 2 (by omega)), hxt]
  have hg : lg (x :: t) = lgT X (t.getD 0 (-1)) (t.getD 1 (-1)) (t.getD 2 (-1)) := by rw [s0]; rfl
  have hll := lg_len (x :: t)
  rw [← hg]
  have h4 := lg_le (x :: t)
  unfold ru wd dcT
  have hc : lg (x :: t) = 0 ∨ lg (x :: t) = 1 ∨ lg (x :: t) = 2 ∨ lg (x :: t) = 3 ∨ lg (x :: t) = 4 := by omega
  rcases hc with e | e | e | e | e
  · simp [e]
  · simp only [e, List.take_succ_cons, List.take_zero, num]; simp [s0]
  · match t, hll, s1 with
    | y :: t', _, s1 =>
      simp only [List.getD_cons_zero] at s1
      simp only [e, List.take_succ_cons, List.take_zero, num]; simp; omega
    | [], hll, _ => rw [e] at hll; simp at hll
  · match t, hll, s1, s2 with
    | y :: z :: t', _, s1, s2 =>
      simp only [List.getD_cons_zero, List.getD_cons_succ] at s1 s2
      simp only [e, List.take_succ_cons, List.take_zero, num]; simp; omega
    | [_], hll, _, _ => rw [e] at hll; simp at hll
    | [], hll, _, _ => rw [e] at hll; simp at hll
  · match t, hll, s1, s2, s3 with
    | y :: z :: w :: t', _, s1, s2, s3 =>
      simp only [List.getD_cons_zero, List.getD_cons_succ] at s1 s2 s3
      simp only [e, List.take_succ_cons, List.take_zero, num]; simp; omega
    | [_, _], hll, _, _, _ => rw [e] at hll; simp at hll
    | [_], hll, _, _, _ => rw [e] at hll; simp at hll
    | [], hll, _, _, _ => rw [e] at hll; simp at hll
end Go.Proofs.YtaojbcplmdjfnaaDoor.Math

namespace Go.Proofs.YtaojbcplmdjfnaaDoor.Math
set_option linter.unusedVariables false
set_option linter.unusedSimpArgs false
theorem rn_bounds' (l : List Int) : 0 ≤ fr l ∧ 0 ≤ rn l ∧ rn l ≤ l.length ∧ fr l ≤ rn l ∧ rn l + 3 * fr l ≤ l.length := by
  generalize hn : l.length = n
  induction n using Nat.strongRecOn generalizing l with
  | ind n ih =>
    cases l with
    | nil => simp [rn, fr]
    | cons x t =>
      have hw := wd_pos (x :: t)
      have hwl := wd_le x t
      have hd : ((x :: t).drop (wd (x :: t))).length = n - wd (x :: t) := by rw [List.length_drop, hn]
      have h := ih (n - wd (x :: t)) (by simp at hn; omega) _ hd
      rw [rn_step, fr_step]
      have hw4 : lg (x :: t) = 4 → wd (x :: t) = 4 := fun h => by unfold wd; rw [h]; rfl
      split <;> omega
theorem en_bounds' (l : List Int) : ∀ p, 0 ≤ en p l ∧ en p l ≤ l.length := by
  induction l with
  | nil => intro p; simp [en]
  | cons x t ih =>
    intro p
    have := ih x
    simp only [en, List.length_cons]
    split <;> omega
def seamR : List Int → List Int → Int × Int
  | [], _ => (0, 0)
  | x :: t, b => if t.length + 1 < lg (x :: t ++ b) then (((lg (x :: t ++ b) : Nat) : Int) - 1, ((lg (x :: t ++ b) : Nat) : Int) - (if lg (x :: t ++ b) = 4 then 2 else 1)) else seamR t b
theorem seamR_tails (t b : List Int) (h : ∀ i, i < t.length → 128 ≤ t.getD i (-1) ∧ t.getD i (-1) ≤ 191) : seamR t b = (0, 0) := by
  induction t with
  | nil => rfl
  | cons x t ih =>
    have h0 := h 0 (by simp)
    simp at h0
    rw [seamR, List.cons_append, lg_tail _ h0, if_neg (by omega)]
    exact ih (fun i hi => by have := h (i + 1) (by simp; omega); rwa [List.getD_cons_succ] at this)
theorem rf_append (a b : List Int) : rn (a ++ b) = rn a + rn b - (seamR a b).1 ∧ rn (a ++ b) + fr (a ++ b) = (rn a + fr a) + (rn b + fr b) - (seamR a b).2 := by
  induction a with
  | nil => simp [rn, fr, seamR]
  | cons x t ih =>
    obtain ⟨h1, h2⟩ := ih
    have hll := lg_len (x :: t)
    have e1 : rn (x :: t ++ b) = rho (lg (x :: t ++ b)) + rn (t ++ b) := rfl
    have e2 : fr (x :: t ++ b) = (if lg (x :: t ++ b) = 4 then 1 else 0) + fr (t ++ b) := rfl
    have e3 : rn (x :: t) = rho (lg (x :: t)) + rn t := rfl
    have e4 : fr (x :: t) = (if lg (x :: t) = 4 then 1 else 0) + fr t := rfl
    rw [seamR, e1, e2, e3, e4]
    generalize hL' : lg (x :: t ++ b) = L
    have h4 := lg_le (x :: t ++ b)
    rw [hL'] at h4
    by_cases hs : t.length + 1 < L
    · rw [if_pos hs]
      have hz : seamR t b = (0, 0) := seamR_tails t b (fun i hi => by
        have := lg_tails (x :: t ++ b) (i + 1) (by omega) (by omega)
        rwa [List.cons_append, List.getD_cons_succ, getD_app t b i hi] at this)
      have h0 : lg (x :: t) = 0 := by
        rcases Nat.eq_zero_or_pos (lg (x :: t)) with h | h
        · exact h
        · have := lg_append (x :: t) b h
          simp at hll; omega
      rw [hz] at h1 h2
      simp only at h1 h2 ⊢
      rw [h0]
      unfold rho
      rw [if_neg (by omega), if_pos (by omega)]
      refine ⟨by omega, ?_⟩
      split <;> simp <;> omega
    · rw [if_neg hs]
      have he : L = lg (x :: t) := by
        rcases Nat.eq_zero_or_pos L with h | h
        · rcases Nat.eq_zero_or_pos (lg (x :: t)) with h' | h'
          · rw [h, h']
          · have := lg_append (x :: t) b h'; omega
        · exact ((lg_of_append (x :: t) b (by omega) (by simp; simp at hL'; omega)).trans hL').symm
      subst he
      refine ⟨by omega, by omega⟩
theorem seamR_last (a b : List Int) : seamR a b = seamR (a.drop (a.length - 3)) b := by
  induction a with
  | nil => rfl
  | cons x t ih =>
    by_cases h : t.length + 1 ≤ 3
    · rw [List.length_cons, show t.length + 1 - 3 = 0 by omega, List.drop_zero]
    · have h4 := lg_le (x :: t ++ b)
      rw [seamR, if_neg (by omega), List.length_cons, show t.length + 1 - 3 = (t.length - 3) + 1 by omega, List.drop_succ_cons]
      exact ih
theorem getD_take' (b : List Int) (n k : Nat) (h : k < n) : (b.take n).getD k (-1) = b.getD k (-1) := by
  simp [List.getD, List.getElem?_take, h]
theorem getD_app2 (s b : List Int) (k : Nat) (h : s.length ≤ k) : (s ++ b).getD k (-1) = b.getD (k - s.length) (-1) := by
  simp [List.getD, List.getElem?_append_right h]
theorem lg_head (x : Int) (t b : List Int) (n : Nat) (hn : 3 ≤ n) : lg (x :: t ++ b.take n) = lg (x :: t ++ b) := by
  have hk : ∀ k, k ≤ 2 → (t ++ b.take n).getD k (-1) = (t ++ b).getD k (-1) := by
    intro k hk
    by_cases h : k < t.length
    · rw [getD_app _ _ _ h, getD_app _ _ _ h]
    · rw [getD_app2 _ _ _ (by omega), getD_app2 _ _ _ (by omega), getD_take' _ _ _ (by omega)]
  simp only [lg, List.cons_append]
  rw [hk 0 (by omega), hk 1 (by omega), hk 2 (by omega)]
theorem seamR_take (a b : List Int) : seamR a b = seamR a (b.take 3) := by
  induction a with
  | nil => rfl
  | cons x t ih => rw [seamR, seamR, lg_head x t b 3 (by omega), ih]
def seamE (a b : List Int) : Int := if a.getD (a.length - 1) (-1) = 13 ∧ b.getD 0 (-1) = 10 then 1 else 0
theorem en_key (u v : Int) (l : List Int) (h : u = 13 ↔ v = 13) : en u l = en v l := by
  cases l with
  | nil => rfl
  | cons y l => simp only [en, ne_eq, h]
theorem en_append (a b : List Int) (p : Int) : en p (a ++ b) = en p a + en (if a = [] then p else a.getD (a.length - 1) (-1)) b := by
  induction a generalizing p with
  | nil => simp [en]
  | cons x t ih =>
    simp only [List.cons_append, en]
    rw [ih x]
    have e1 : (if x :: t = [] then p else (x :: t).getD ((x :: t).length - 1) (-1)) = (if t = [] then x else t.getD (t.length - 1) (-1)) := by
      rw [if_neg (List.cons_ne_nil _ _)]
      cases t with
      | nil => simp
      | cons y t => rw [if_neg (List.cons_ne_nil _ _)]; simp
    rw [e1]
    omega
theorem en_seam (a b : List Int) : en 0 (a ++ b) = en 0 a + en 0 b - seamE a b := by
  rw [en_append]
  unfold seamE
  by_cases ha : a = []
  · subst ha; simp
  · rw [if_neg ha]
    generalize a.getD (a.length - 1) (-1) = q
    by_cases hq : q = 13
    · subst hq
      cases b with
      | nil => simp [en]
      | cons y b =>
        simp only [en, List.getD_cons_zero, true_and]
        by_cases h10 : y = 10
        · subst h10; simp; omega
        · by_cases h13 : y = 13
          · subst h13; simp
          · simp [h10, h13]
    · rw [en_key q 0 b (by omega), if_neg (fun h => hq h.1)]
      omega
theorem seamE_last (a b : List Int) : seamE a b = seamE (a.drop (a.length - 3)) (b.take 3) := by
  unfold seamE
  rw [getD_take' _ _ _ (by omega), getD_drop', List.length_drop]
  congr 3
  by_cases h : 1 ≤ a.length
  · congr 1; omega
  · have : a.length = 0 := by omega
    rw [List.length_eq_zero_iff.1 this]; rfl
theorem seamR_range (a b : List Int) : 0 ≤ (seamR a b).1 ∧ (seamR a b).1 ≤ 3 ∧ 0 ≤ (seamR a b).2 ∧ (seamR a b).2 ≤ 2 := by
  induction a with
  | nil => simp [seamR]
  | cons x t ih =>
    have h4 := lg_le (x :: t ++ b)
    rw [seamR]
    generalize lg (x :: t ++ b) = L at *
    split
    · refine ⟨?_, ?_, ?_, ?_⟩ <;> dsimp only <;> (try split) <;> omega
    · exact ih
theorem seamE_range (a b : List Int) : 0 ≤ seamE a b ∧ seamE a b ≤ 1 := by unfold seamE; split <;> omega
theorem len_le (l : List Int) (hb : Byt l) : (l.length : Int) ≤ 3 * rn l + fr l ∧ ∀ p, en p l ≤ rn l := by
  generalize hn : l.length = n
  induction n using Nat.strongRecOn generalizing l with
  | ind n ih =>
    cases l with
    | nil => simp [rn, fr, en] at *; omega
    | cons x t =>
      have hw := wd_pos (x :: t)
      have hwl := wd_le x t
      have h4 := lg_le (x :: t)
      have hx := (hb x (by simp)).1
      have hd : ((x :: t).drop (wd (x :: t))).length = n - wd (x :: t) := by rw [List.length_drop, hn]
      have h := ih (n - wd (x :: t)) (by simp at hn; omega) _ (hb.drop _) hd
      rw [rn_step, fr_step]
      refine ⟨?_, fun p => ?_⟩
      · have hh := h.1
        have hw4 : (wd (x :: t) : Int) ≤ 3 + (if lg (x :: t) = 4 then 1 else 0) := by unfold wd; split <;> split <;> omega
        omega
      · rw [en_step p x t hx]
        have hh := h.2 (ru (x :: t))
        split <;> omega
def vldB (n r u e : Int) (H T : List Int) : Bool :=
  if n < 0 ∨ n > 268435456 ∨ (H.length : Int) ≠ min 3 n ∨ (T.length : Int) ≠ min 3 n then false
  else if n ≤ 6 then decide (H.drop (n.toNat - T.length) = T.take (H.length + T.length - n.toNat)) && decide (r = rn (H ++ T.drop (H.length + T.length - n.toNat)) ∧ u = rn (H ++ T.drop (H.length + T.length - n.toNat)) + fr (H ++ T.drop (H.length + T.length - n.toNat)) ∧ e = en 0 (H ++ T.drop (H.length + T.length - n.toNat)))
  else decide (0 ≤ r ∧ r ≤ n ∧ r ≤ u ∧ u ≤ 2 * r ∧ r - (u - r) ≤ n - 4 * (u - r) ∧ n - 4 * (u - r) ≤ 3 * (r - (u - r)) ∧ 0 ≤ e ∧ e ≤ r)
theorem vld_of (l : List Int) (hb : Byt l) (hl : l.length ≤ 268435456) : vldB l.length (rn l) (rn l + fr l) (en 0 l) (l.take 3) (l.drop (l.length - 3)) = true := by
  unfold vldB
  rw [if_neg (by simp; omega)]
  split
  · rename_i h6
    have e1 : (l.length : Int).toNat = l.length := by simp
    rw [e1]
    have hT : (l.drop (l.length - 3)).length = min 3 l.length := by rw [List.length_drop]; omega
    have hH : (l.take 3).length = min 3 l.length := by rw [List.length_take]
    rw [hT, hH]
    by_cases h3 : l.length ≤ 3
    · have q1 : l.take 3 = l := List.take_of_length_le h3
      have q2 : l.length - 3 = 0 := by omega
      have q3 : l.length - min 3 l.length = 0 := by omega
      have q4 : min 3 l.length + min 3 l.length - l.length = l.length := by omega
      rw [q2, q3, q4, q1, List.drop_zero, List.drop_length, List.append_nil, List.take_length]
      simp
    · have q3 : l.length - min 3 l.length = l.length - 3 := by omega
      have q4 : min 3 l.length + min 3 l.length - l.length = 3 - (l.length - 3) := by omega
      have q5 : (l.take 3).drop (l.length - 3) = (l.drop (l.length - 3)).take (3 - (l.length - 3)) := by rw [List.drop_take]
      have q6 : l.take 3 ++ (l.drop (l.length - 3)).drop (3 - (l.length - 3)) = l := by
        rw [List.drop_drop, show l.length - 3 + (3 - (l.length - 3)) = 3 by omega, List.take_append_drop]
      rw [q3, q4, q5, q6]
      simp
  · have h1 := rn_bounds' l
    have h2 := len_le l hb
    have h3 := h2.2 0
    have h4 := en_bounds' l 0
    rw [decide_eq_true_eq]
    omega
end Go.Proofs.YtaojbcplmdjfnaaDoor.Math

namespace Go.Proofs.YtaojbcplmdjfnaaDoor.Pr
open Go.RowKit Go.Proofs.YtaojbcplmdjfnaaDoorW.PrintWords Go.Proofs.YtaojbcplmdjfnaaDoorW.PrintLast Go.Proofs.YtaojbcplmdjfnaaDoorW.PrintMore
attribute [local go_sem] max2_int min2_int max_two min_two max_three min_three max_four min_four   -- for this text's walks alone
set_option linter.unusedVariables false
set_option linter.unusedSimpArgs false
def galleyref02_at.f (l0 : List Int) (a1 : Int) : Option (Int) := if a1 < 0 then (some (-1)) else (if a1 ≥ (l0.length : Int) then (some (-1)) else (if 0 ≤ a1 then (if a1 < (l0.length : Int) then (some (wrap64 (rd l0 a1))) else (none)) else (none)))
def galleyref02_in.f (a0 : Int) (a1 : Int) (a2 : Int) : Option (Bool) := if a0 ≥ a1 then (some (decide (a0 ≤ a2))) else (some false)
end Go.Proofs.YtaojbcplmdjfnaaDoor.Pr

namespace Go.Proofs.YtaojbcplmdjfnaaDoor.Pr
open Go.RowKit Go.Proofs.YtaojbcplmdjfnaaDoorW.PrintWords Go.Proofs.YtaojbcplmdjfnaaDoorW.PrintLast Go.Proofs.YtaojbcplmdjfnaaDoorW.PrintMore
attribute [local go_sem] max2_int min2_int max_two min_two max_three min_three max_four min_four   -- for this text's walks alone
set_option linter.unusedVariables false
set_option linter.unusedSimpArgs false
mutual
def galleyref02_Long.j0 : Nat → Int → Int → Int → Int → Bool → Option (Int)
 | 0, _, _, _, _, _ => none
 | k + 1, x5, x6, x7, x8, x31 => if x31 = true then (some 2) else ((galleyref02_in.f x7 128 191).bind fun t218 => (if t218 = true then (if x5 = 224 then ((galleyref02_in.f x6 160 191).bind fun t219 => (if t219 = true then (some 3) else ((galleyref02_in.f x5 225 236).bind fun t220 => (if t220 = true then ((galleyref02_in.f x6 128 191).bind fun t221 => (if t221 = true then (some 3) else (if x5 = 237 then ((galleyref02_in.f x6 128 159).bind fun t222 => (if t222 = true then (some 3) else ((galleyref02_in.f x5 238 239).bind fun t223 => (if t223 = true then ((galleyref02_in.f x6 128 191).bind fun t224 => (if t224 = true then (some 3) else (galleyref02_Long.j1 k x5 x6 x7 x8))) else (galleyref02_Long.j1 k x5 x6 x7 x8))))) else ((galleyref02_in.f x5 238 239).bind fun t225 => (if t225 = true then ((galleyref02_in.f x6 128 191).bind fun t226 => (if t226 = true then (some 3) else (galleyref02_Long.j1 k x5 x6 x7 x8))) else (galleyref02_Long.j1 k x5 x6 x7 x8)))))) else (if x5 = 237 then ((galleyref02_in.f x6 128 159).bind fun t227 => (if t227 = true then (some 3) else ((galleyref02_in.f x5 238 239).bind fun t228 => (if t228 = true then ((galleyref02_in.f x6 128 191).bind fun t229 => (if t229 = true then (some 3) else (galleyref02_Long.j1 k x5 x6 x7 x8))) else (galleyref02_Long.j1 k x5 x6 x7 x8))))) else ((galleyref02_in.f x5 238 239).bind fun t230 => (if t230 = true then ((galleyref02_in.f x6 128 191).bind fun t231 => (if t231 = true then (some 3) else (galleyref02_Long.j1 k x5 x6 x7 x8))) else (galleyref02_Long.j1 k x5 x6 x7 x8)))))))) else ((galleyref02_in.f x5 225 236).bind fun t232 => (if t232 = true then ((galleyref02_in.f x6 128 191).bind fun t233 => (if t233 = true then (some 3) else (if x5 = 237 then ((galleyref02_in.f x6 128 159).bind fun t234 => (if t234 = true then (some 3) else ((galleyref02_in.f x5 238 239).bind fun t235 => (if t235 = true then ((galleyref02_in.f x6 128 191).bind fun t236 => (if t236 = true then (some 3) else (galleyref02_Long.j1 k x5 x6 x7 x8))) else (galleyref02_Long.j1 k x5 x6 x7 x8))))) else ((galleyref02_in.f x5 238 239).bind fun t237 => (if t237 = true then ((galleyref02_in.f x6 128 191).bind fun t238 => (if t238 = true then (some 3) else (galleyref02_Long.j1 k x5 x6 x7 x8))) else (galleyref02_Long.j1 k x5 x6 x7 x8)))))) else (if x5 = 237 then ((galleyref02_in.f x6 128 159).bind fun t239 => (if t239 = true then (some 3) else ((galleyref02_in.f x5 238 239).bind fun t240 => (if t240 = true then ((galleyref02_in.f x6 128 191).bind fun t241 => (if t241 = true then (some 3) else (galleyref02_Long.j1 k x5 x6 x7 x8))) else (galleyref02_Long.j1 k x5 x6 x7 x8))))) else ((galleyref02_in.f x5 238 239).bind fun t242 => (if t242 = true then ((galleyref02_in.f x6 128 191).bind fun t243 => (if t243 = true then (some 3) else (galleyref02_Long.j1 k x5 x6 x7 x8))) else (galleyref02_Long.j1 k x5 x6 x7 x8))))))) else (galleyref02_Long.j1 k x5 x6 x7 x8)))
def galleyref02_Long.j1 : Nat → Int → Int → Int → Int → Option (Int)
 | 0, _, _, _, _ => none
 | k + 1, x5, x6, x7, x8 => (galleyref02_in.f x7 128 191).bind fun t244 => (if t244 = true then ((galleyref02_in.f x8 128 191).bind fun t245 => (galleyref02_Long.j2 k x5 x6 t245)) else (galleyref02_Long.j2 k x5 x6 false))
def galleyref02_Long.j2 : Nat → Int → Int → Bool → Option (Int)
 | 0, _, _, _ => none
 | k + 1, x5, x6, x69 => if x69 = true then (if x5 = 240 then ((galleyref02_in.f x6 144 191).bind fun t246 => (if t246 = true then (some 4) else ((galleyref02_in.f x5 241 243).bind fun t247 => (if t247 = true then ((galleyref02_in.f x6 128 191).bind fun t248 => (if t248 = true then (some 4) else (if x5 = 244 then ((galleyref02_in.f x6 128 143).bind fun t249 => (if t249 = true then (some 4) else (some 0))) else (some 0)))) else (if x5 = 244 then ((galleyref02_in.f x6 128 143).bind fun t250 => (if t250 = true then (some 4) else (some 0))) else (some 0)))))) else ((galleyref02_in.f x5 241 243).bind fun t251 => (if t251 = true then ((galleyref02_in.f x6 128 191).bind fun t252 => (if t252 = true then (some 4) else (if x5 = 244 then ((galleyref02_in.f x6 128 143).bind fun t253 => (if t253 = true then (some 4) else (some 0))) else (some 0)))) else (if x5 = 244 then ((galleyref02_in.f x6 128 143).bind fun t254 => (if t254 = true then (some 4) else (some 0))) else (some 0))))) else (some 0)
end
def galleyref02_Long.f (k : Nat) (l0 : List Int) (a1 : Int) : Option (Int) := (galleyref02_at.f l0 a1).bind fun t211 => ((galleyref02_at.f l0 (wrap64 (a1 + 1))).bind fun t212 => ((galleyref02_at.f l0 (wrap64 (a1 + 2))).bind fun t213 => ((galleyref02_at.f l0 (wrap64 (a1 + 3))).bind fun t214 => ((galleyref02_in.f t211 0 127).bind fun t215 => (if t215 = true then (some 1) else ((galleyref02_in.f t211 194 223).bind fun t216 => (if t216 = true then ((galleyref02_in.f t212 128 191).bind fun t217 => (galleyref02_Long.j0 k t211 t212 t213 t214 t217)) else (galleyref02_Long.j0 k t211 t212 t213 t214 false))))))))
end Go.Proofs.YtaojbcplmdjfnaaDoor.Pr

namespace Go.Proofs.YtaojbcplmdjfnaaDoor.Pr
open Go.RowKit Go.Proofs.YtaojbcplmdjfnaaDoorW.PrintWords Go.Proofs.YtaojbcplmdjfnaaDoorW.PrintLast Go.Proofs.YtaojbcplmdjfnaaDoorW.PrintMore
attribute [local go_sem] max2_int min2_int max_two min_two max_three min_three max_four min_four   -- for this text's walks alone
set_option linter.unusedVariables false
set_option linter.unusedSimpArgs false
def galleyref02_Inside.l0 : Nat → List Int → Int → Int → Option (Bool)
 | 0, _, _, _ => none
 | k + 1, x0, x1, x5 => if x5 ≤ 3 then (if (wrap64 (x1 - x5)) ≥ 0 then ((galleyref02_Long.f k x0 (wrap64 (x1 - x5))).bind fun t255 => (if t255 > x5 then (some true) else (galleyref02_Inside.l0 k x0 x1 (wrap64 (x5 + 1))))) else (galleyref02_Inside.l0 k x0 x1 (wrap64 (x5 + 1)))) else (some false)
def galleyref02_Inside.f (k : Nat) (l0 : List Int) (a1 : Int) : Option (Bool) := galleyref02_Inside.l0 k l0 a1 1
def galleyref02_Edges.l0 : Nat → List Int → List Int → Int → Option (List Int)
 | 0, _, _, _ => none
 | k + 1, x0, x3, x4 => if x4 ≤ (x0.length : Int) then ((galleyref02_Inside.f k x0 x4).bind fun t256 => (if t256 = true then (galleyref02_Edges.l0 k x0 x3 (wrap64 (x4 + 1))) else (if x3.length < 17592186044416 then (galleyref02_Edges.l0 k x0 (x3 ++ [x4]) (wrap64 (x4 + 1))) else (none)))) else (some x3)
def galleyref02_Edges.f (k : Nat) (l0 : List Int) : Option (List Int) := galleyref02_Edges.l0 k l0 ([] : List Int) 0
mutual
def galleyref02_Of.j0 : Nat → List Int → Int → Int → Int → Option (Int × Int × Bool)
 | 0, _, _, _, _ => none
 | k + 1, x0, x1, x5, x6 => galleyref02_Of.l0 k x0 x1 x5 x6 1
def galleyref02_Of.l0 : Nat → List Int → Int → Int → Int → Int → Option (Int × Int × Bool)
 | 0, _, _, _, _, _ => none
 | k + 1, x0, x1, x5, x6, x7 => if x7 < x5 then (if 0 ≤ (wrap64 (x1 + x7)) then (if (wrap64 (x1 + x7)) < (x0.length : Int) then (galleyref02_Of.l0 k x0 x1 x5 (wrap64 ((wrap64 (x6 * 64)) + (Int.tmod (wrap64 (rd x0 (wrap64 (x1 + x7)))) 64))) (wrap64 (x7 + 1))) else (none)) else (none)) else (some (wrap32 (x6), x5, true))
end
def galleyref02_Of.f (k : Nat) (l0 : List Int) (a1 : Int) : Option (Int × Int × Bool) := (galleyref02_Long.f k l0 a1).bind fun t261 => (if t261 = 0 then (some (65533, 1, false)) else (if 0 ≤ a1 then (if a1 < (l0.length : Int) then (if t261 = 2 then (galleyref02_Of.j0 k l0 a1 t261 (Int.tmod (wrap64 (rd l0 a1)) 32)) else (if t261 = 3 then (galleyref02_Of.j0 k l0 a1 t261 (Int.tmod (wrap64 (rd l0 a1)) 16)) else (if t261 = 4 then (galleyref02_Of.j0 k l0 a1 t261 (Int.tmod (wrap64 (rd l0 a1)) 8)) else (galleyref02_Of.j0 k l0 a1 t261 (wrap64 (rd l0 a1)))))) else (none)) else (none)))
def galleyref02_Steps.l0 : Nat → List Int → List (S57) → List Int → Int → Option ((List (S57)))
 | 0, _, _, _, _ => none
 | k + 1, x0, x3, x4, x5 => if (wrap64 (x5 + 1)) < (x4.length : Int) then (if 0 ≤ x5 then (if x5 < (x4.length : Int) then ((galleyref02_Of.f k x0 (rd x4 x5)).bind fun bt268 => (if x3.length < 5864062014805 then (galleyref02_Steps.l0 k x0 (x3 ++ [(⟨bt268.1, bt268.2.1, bt268.2.2⟩ : S57)]) x4 (wrap64 (x5 + 1))) else (none))) else (none)) else (none)) else (some x3)
def galleyref02_Steps.f (k : Nat) (l0 : List Int) : Option ((List (S57))) := (galleyref02_Edges.f k l0).bind fun t264 => (galleyref02_Steps.l0 k l0 ([] : List (S57)) t264 0)
def galleyref05_units.f (a0_0 : Int) (a0_1 : Int) (a0_2 : Bool) : Option (Int) := if a0_0 > 65535 then (some 2) else (some 1)
end Go.Proofs.YtaojbcplmdjfnaaDoor.Pr

namespace Go.Proofs.YtaojbcplmdjfnaaDoor.Pr
open Go.RowKit Go.Proofs.YtaojbcplmdjfnaaDoorW.PrintWords Go.Proofs.YtaojbcplmdjfnaaDoorW.PrintLast Go.Proofs.YtaojbcplmdjfnaaDoorW.PrintMore
attribute [local go_sem] max2_int min2_int max_two min_two max_three min_three max_four min_four   -- for this text's walks alone
set_option linter.unusedVariables false
set_option linter.unusedSimpArgs false
mutual
def galleyref05_Sizes.l0 : Nat → List Int → List (S57) → Int → Int → Int → Int → Int → Option (Int × Int × Int × Int)
 | 0, _, _, _, _, _, _, _ => none
 | k + 1, x0, x4, x5, x277000, x277001, x277002, x277003 => if x5 < (x4.length : Int) then (if 0 ≤ x5 then ((galleyref05_units.f ((rd_T57 x4 x5).f0) ((rd_T57 x4 x5).f1) ((rd_T57 x4 x5).f2)).bind fun t281 => (galleyref05_Sizes.l0 k x0 x4 (wrap64 (x5 + 1)) x277000 (wrap64 (x277001 + 1)) (wrap64 (x277002 + t281)) x277003)) else (none)) else (galleyref05_Sizes.l1 k x0 0 x277000 x277001 x277002 x277003)
def galleyref05_Sizes.l1 : Nat → List Int → Int → Int → Int → Int → Int → Option (Int × Int × Int × Int)
 | 0, _, _, _, _, _, _ => none
 | k + 1, x0, x6, x277000, x277001, x277002, x277003 => if x6 < (x0.length : Int) then (if 0 ≤ x6 then (if (rd x0 x6) = 10 then (if x6 = 0 then (galleyref05_Sizes.l1 k x0 (wrap64 (x6 + 1)) x277000 x277001 x277002 (wrap64 (x277003 + 1))) else (if 0 ≤ (wrap64 (x6 - 1)) then (if (wrap64 (x6 - 1)) < (x0.length : Int) then (if (rd x0 (wrap64 (x6 - 1))) = 13 then (if (rd x0 x6) = 13 then (galleyref05_Sizes.l1 k x0 (wrap64 (x6 + 1)) x277000 x277001 x277002 (wrap64 (x277003 + 1))) else (galleyref05_Sizes.l1 k x0 (wrap64 (x6 + 1)) x277000 x277001 x277002 x277003)) else (galleyref05_Sizes.l1 k x0 (wrap64 (x6 + 1)) x277000 x277001 x277002 (wrap64 (x277003 + 1)))) else (none)) else (none))) else (if (rd x0 x6) = 13 then (galleyref05_Sizes.l1 k x0 (wrap64 (x6 + 1)) x277000 x277001 x277002 (wrap64 (x277003 + 1))) else (galleyref05_Sizes.l1 k x0 (wrap64 (x6 + 1)) x277000 x277001 x277002 x277003))) else (none)) else (some (x277000, x277001, x277002, x277003))
end
def galleyref05_Sizes.f (k : Nat) (l0 : List Int) : Option (Int × Int × Int × Int) := (galleyref02_Steps.f k l0).bind fun t277 => (galleyref05_Sizes.l0 k l0 t277 0 (l0.length : Int) 0 0 0)
def galleyref05_head.f (a0 : ByteArray) : Option (ByteArray) := if 0 ≤ (mn 3 (a0.size : Int)) then (if (mn 3 (a0.size : Int)) ≤ (a0.size : Int) then (some (a0.extract 0 ((mn 3 (a0.size : Int)) : Int).toNat)) else (none)) else (none)
def galleyref05_tail.f (a0 : ByteArray) : Option (ByteArray) := if 0 ≤ (mx 0 (wrap64 ((a0.size : Int) - 3))) then (if (mx 0 (wrap64 ((a0.size : Int) - 3))) ≤ (a0.size : Int) then (some (a0.extract ((mx 0 (wrap64 ((a0.size : Int) - 3))) : Int).toNat a0.size)) else (none)) else (none)
def galleyref05_Of.f (k : Nat) (l0 : List Int) : Option (Int × Int × Int × Int × ByteArray × ByteArray) := if (l0.length : Int) > 268435456 then (some (0, 0, 0, 0, (⟨#[]⟩ : ByteArray), (⟨#[]⟩ : ByteArray))) else ((galleyref05_Sizes.f k l0).bind fun bt287 => ((galleyref05_head.f (strOfNums l0)).bind fun t291 => ((galleyref05_tail.f (strOfNums l0)).bind fun t292 => (some (bt287.1, bt287.2.1, bt287.2.2.1, bt287.2.2.2, t291, t292)))))
end Go.Proofs.YtaojbcplmdjfnaaDoor.Pr
