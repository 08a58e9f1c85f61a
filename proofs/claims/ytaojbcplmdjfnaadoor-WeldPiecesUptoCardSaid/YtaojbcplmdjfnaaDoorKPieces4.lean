/- Part 4 of the lemmas on which the card weldPieces_card stands (its sentence and conditions stand in the last text). Conditions: as each lemma says. -/
import Derived.Test.YtaojbcplmdjfnaaDoorKPieces3
namespace Go.Proofs.YtaojbcplmdjfnaaDoor.Pr
open Go.RowKit Go.Proofs.YtaojbcplmdjfnaaDoorW.PrintWords Go.Proofs.YtaojbcplmdjfnaaDoorW.PrintLast Go.Proofs.YtaojbcplmdjfnaaDoorW.PrintMore
attribute [local go_sem] max2_int min2_int max_two min_two max_three min_three max_four min_four   -- for this text's walks alone
set_option linter.unusedVariables false
set_option linter.unusedSimpArgs false
attribute [local go_sem high] eqA26
mutual
def galleylaw05_WeldPieces.l0 : Nat → List Int → List (S26) → List (List Int) → Int → Int → Option (Bool)
 | 0, _, _, _, _, _ => none
 | k + 1, x3, x4, x18, x19, x20 => if x20 < x19 then (if 0 ≤ x20 then (if x20 < (x18.length : Int) then (if x3.length + (rd_L1 x18 x20).length < 140737488355328 then ((weld_Of.f (rd_L1 x18 x20)).bind fun bt616 => (if x4.length < 2199023255552 then (galleylaw05_WeldPieces.l0 k (x3 ++ (rd_L1 x18 x20)) (x4 ++ [(⟨(⟨bt616.1, bt616.2.1, bt616.2.2.1, bt616.2.2.2.1⟩ : S24), bt616.2.2.2.2.1, bt616.2.2.2.2.2⟩ : S26)]) x18 x19 (wrap64 (x20 + 1))) else (none))) else (none)) else (none)) else (none)) else (if (x3.length : Int) > 268435456 then (some true) else ((weld_Of.f x3).bind fun bt625 => ((weld_Sum.f k x4).bind fun bt632 => ((weld_Of.f ([] : List Int)).bind fun bt640 => (galleylaw05_WeldPieces.l1 k x4 bt632.2.2.2.2.2.2 (wrap64 ((x4.length : Int) - 1)) bt625.1 bt625.2.1 bt625.2.2.1 bt625.2.2.2.1 bt625.2.2.2.2.1 bt625.2.2.2.2.2 bt632.1 bt632.2.1 bt632.2.2.1 bt632.2.2.2.1 bt632.2.2.2.2.1 bt632.2.2.2.2.2.1 bt640.1 bt640.2.1 bt640.2.2.1 bt640.2.2.2.1 bt640.2.2.2.2.1 bt640.2.2.2.2.2)))))
def galleylaw05_WeldPieces.l1 : Nat → List (S26) → Int → Int → Int → Int → Int → Int → ByteArray → ByteArray → Int → Int → Int → Int → ByteArray → ByteArray → Int → Int → Int → Int → ByteArray → ByteArray → Option (Bool)
 | 0, _, _, _, _, _, _, _, _, _, _, _, _, _, _, _, _, _, _, _, _, _ => none
 | k + 1, x4, x9, x11, x632000, x632001, x632002, x632003, x632004, x632005, x640000, x640001, x640002, x640003, x640004, x640005, x647000, x647001, x647002, x647003, x647004, x647005 => if x11 ≥ 0 then (if 0 ≤ x11 then (if x11 < (x4.length : Int) then ((weld_Join.f k ((rd_T26 x4 x11).f0.f0) ((rd_T26 x4 x11).f0.f1) ((rd_T26 x4 x11).f0.f2) ((rd_T26 x4 x11).f0.f3) ((rd_T26 x4 x11).f1) ((rd_T26 x4 x11).f2) x647000 x647001 x647002 x647003 x647004 x647005).bind fun bt648 => (if bt648.2.2.2.2.2.2 = 0 then (galleylaw05_WeldPieces.l1 k x4 x9 (wrap64 (x11 - 1)) x632000 x632001 x632002 x632003 x632004 x632005 x640000 x640001 x640002 x640003 x640004 x640005 bt648.1 bt648.2.1 bt648.2.2.1 bt648.2.2.2.1 bt648.2.2.2.2.1 bt648.2.2.2.2.2.1) else (none))) else (none)) else (none)) else ((galleylaw05_halves.f k x4).bind fun bt656 => (if x9 = 0 then (if bt656.2.2.2.2.2.2 = true then (if ((x640000 == x632000 && (x640001 == x632001 && (x640002 == x632002 && (x640003 == x632003)))) && (x640004.toList == x632004.toList && (x640005.toList == x632005.toList))) = true then (if ((x647000 == x632000 && (x647001 == x632001 && (x647002 == x632002 && (x647003 == x632003)))) && (x647004.toList == x632004.toList && (x647005.toList == x632005.toList))) = true then (some ((bt656.1 == x632000 && (bt656.2.1 == x632001 && (bt656.2.2.1 == x632002 && (bt656.2.2.2.1 == x632003)))) && (bt656.2.2.2.2.1.toList == x632004.toList && (bt656.2.2.2.2.2.1.toList == x632005.toList)))) else (none)) else (none)) else (none)) else (none)))
end
def galleylaw05_WeldPieces.f (k : Nat) (l0 : List (List Int)) : Option (Bool) := (galleylaw05_fixed.f).bind fun t611 => (if t611 = true then (galleylaw05_WeldPieces.l0 k ([] : List Int) ([] : List (S26)) l0 (l0.length : Int) 0) else (none))
def galleylaw05_WeldPieces.T19 : Bool × List (List Nat × List Nat) := (true, [([], []), ([], []), ([0, 1], [0, 1]), ([2], [2]), ([], []), ([3, 4], [3, 4]), ([5], [5]), ([6], [6]), ([6], [6]), ([], []), ([9, 7, 5, 0, 1, 2, 3, 4, 5, 6, 7, 9], [7, 9]), ([8, 10, 0, 1, 2, 3, 4, 5, 6, 7, 8, 9, 10], [8])])
def galleylaw05_WeldPieces.B19 : List Nat := [0, 0, 3, 7, 0, 31, 63, 127, 127, 0, 767, 2047]
theorem galleylaw05_WeldPieces.tab19 : rtab .any (opsOf Tryd.f9 19) = galleylaw05_WeldPieces.T19 := by kernel_rfl
theorem galleylaw05_WeldPieces.bits19 : waitsOk galleylaw05_WeldPieces.T19.2 galleylaw05_WeldPieces.B19 = true := by kernel_rfl
set_option maxHeartbeats 8000000 in
set_option maxRecDepth 100000 in
theorem galleylaw05_WeldPieces.calls (k : Nat) (A0 : Option Addr) (c0 : Nat) (l0 : List (List Int)) (r : Bool) (w : World) (hG : Glob.Globs w) (hr0 : Kd.C (Kd.slice 5 (Kd.int .u8)) w A0 l0.length l0) (hc0 : l0.length ≤ c0) (h : galleylaw05_WeldPieces.f k l0 = some r) :
  Calls Tryd.prog 9 #[.slice A0 l0.length c0] w fun e w' => e = .returned (.bool r) ∧ Below w.heap.size w w' := by
 have hu26 := Tryd.underlying26
 have HG := Aside0.mk hG
 clear hG
 have HR0 := Aside0.mk hr0
 have HC0 := Aside0.mk hc0
 clear hr0 hc0
 have HB := Aside0.mk (Below.refl w.heap.size w)
 have H : ((galleylaw05_fixed.f).bind fun t611 => (if t611 = true then (galleylaw05_WeldPieces.l0 k ([] : List Int) ([] : List (S26)) l0 (l0.length : Int) 0) else (none))) = some r := h
 clear h
 replace H := Option.bind_eq_some_iff.mp H
 obtain ⟨t611, A20, H⟩ := H
 replace H : (if t611 = true then (galleylaw05_WeldPieces.l0 k ([] : List Int) ([] : List (S26)) l0 (l0.length : Int) 0) else (none)) = some r := H
 have A2 := Aside0.mk A20
 clear A20
 by_cases c3 : t611 = true
 ·subst c3
  have H1 : (galleylaw05_WeldPieces.l0 k ([] : List Int) ([] : List (S26)) l0 (l0.length : Int) 0) = some r := by rw [if_pos rfl] at H; exact H
  clear H
  have H := H1
  clear H1
  have H' := Aside0.mk H
  clear H
  go_enter Tryd.func9, Tryd.ntmps9
  go_wp2_with (first | ((with_reducible refine gate_callee (f := 10) rfl ?_); refine goesL_ (some 16) rfl rfl Tryd.func10 (by kernel_rfl) rfl #[] rfl (by (try simp only [List.map_toArray, List.map_cons, List.map_nil]); first | done | rfl | (simp only [List.length_drop, List.length_take]; rfl)) ?_; (with_reducible refine (galleylaw05_fixed.calls  true _ ?side1 A2.out).mono ?_); (case side1 => first | (with_reducible exact HG.out) | exact Glob.Globs_below HG.out (bl HB.out)); rintro e w4 ⟨rfl, hb⟩; refine ⟨_, rfl, ?_⟩; have n0_ := Aside0.mk (below_step (bl HB.out) hb); clear HB; have HB := n0_; clear n0_; (try clear hb); (try clear hb2); (try clear hk); (try clear hi)))
  go_loopg [3, 4, 20] k (fun kq v3 v4 v20 w' => ∃ (x3_1 : List Int) (x4_1 : List (S26)) (x20_1 : Int), v20 = .int .i64 x20_1 ∧ Aside0 (galleylaw05_WeldPieces.l0 kq x3_1 x4_1 l0 (l0.length : Int) x20_1 = some r) ∧ Aside0 (kq ≤ k) ∧ Aside0 (Kd.R (Kd.int .u8) 5 w' w.heap.size (fun _ => True) v3 x3_1) ∧ Aside0 (Kd.R k26 26 w' w.heap.size (fun _ => True) v4 x4_1) ∧ Aside0 (Below w.heap.size w w'))
  case atStart => exact ⟨(([] : List Int)), (([] : List (S26))), (0), (by first | rfl | (simp; done) | (simp [*]; done)), H', ⟨Nat.le_refl _⟩, ⟨by first | exact Kd.R_nil _ _ _ _ _ | exact Kd.N_nil _ _ _ _ _ | exact Kd.V_nil _ _ _ _ _ | exact Kd.Q_nil _ _ _ _ _ | exact Kd.S_nil _ _ _ _ _⟩, ⟨by first | exact Kd.R_nil _ _ _ _ _ | exact Kd.N_nil _ _ _ _ _ | exact Kd.V_nil _ _ _ _ _ | exact Kd.Q_nil _ _ _ _ _ | exact Kd.S_nil _ _ _ _ _⟩, ⟨by repeat (first | (with_reducible first | exact HB.out | apply below_alloc | apply pw_below_drewN | apply below_drew1) | exact HB.out)⟩⟩
  case round =>
   clear H'
   try clear c1
   try clear p2
   try clear c3
   obtain ⟨x3_1, x4_1, x20_1, rfl, HA, HK1, HO_3, HO_4, HB⟩ := hrel
   cases gk with
   | zero => exact absurd HA.out (by simp [galleylaw05_WeldPieces.l0])
   | succ k1 =>
    have H := HA.out
    clear HA
    simp only [galleylaw05_WeldPieces.l0] at H
    by_cases c5 : x20_1 < (l0.length : Int)
    ·rw [if_pos c5] at H
     have c5b0 : decide (x20_1 < (l0.length : Int)) = true := decide_eq_true c5
     clear c5
     by_cases c6 : 0 ≤ x20_1
     ·rw [if_pos c6] at H
      have c6b0 : decide (0 ≤ x20_1) = true := decide_eq_true c6
      clear c6
      by_cases c7 : x20_1 < (l0.length : Int)
      ·rw [if_pos c7] at H
       have c7b0 : decide (x20_1 < (l0.length : Int)) = true := decide_eq_true c7
       clear c7
       by_cases c8 : x3_1.length + (rd_L1 l0 x20_1).length < 140737488355328
       ·rw [if_pos c8] at H
        have LMc8 := Aside0.mk c8
        clear c8
        obtain ⟨y613, hy613⟩ : ∃ y_ : List Int, y_ = (x3_1 ++ (rd_L1 l0 x20_1)) := ⟨_, rfl⟩
        replace H : ((weld_Of.f (rd_L1 l0 x20_1)).bind fun bt616 => (if x4_1.length < 2199023255552 then (galleylaw05_WeldPieces.l0 k1 y613 (x4_1 ++ [(⟨(⟨bt616.1, bt616.2.1, bt616.2.2.1, bt616.2.2.2.1⟩ : S24), bt616.2.2.2.2.1, bt616.2.2.2.2.2⟩ : S26)]) l0 (l0.length : Int) (wrap64 (x20_1 + 1))) else (none))) = some r := by first | (rw [hy613]; with_reducible exact H) | (have H2_ := (Option.bind_some _ _).symm.trans H; rw [hy613]; with_reducible exact H2_) | (have H2_ := (Option.bind_some _ _).symm.trans H; with_reducible exact H2_) | with_reducible exact H | (rw [hy613]; exact H) | exact H
        have Ny613 := Aside0.mk hy613
        clear hy613
        replace H := Option.bind_eq_some_iff.mp H
        obtain ⟨⟨t616, t617, t618, t619, t620, t621⟩, A90, H⟩ := H
        replace H : (if x4_1.length < 2199023255552 then (galleylaw05_WeldPieces.l0 k1 y613 (x4_1 ++ [(⟨(⟨t616, t617, t618, t619⟩ : S24), t620, t621⟩ : S26)]) l0 (l0.length : Int) (wrap64 (x20_1 + 1))) else (none)) = some r := H
        have A9 := Aside0.mk A90
        clear A90
        by_cases c10 : x4_1.length < 2199023255552
        ·rw [if_pos c10] at H
         have LMc10 := Aside0.mk c10
         clear c10
         obtain ⟨y622, hy622⟩ : ∃ y_ : List (S26), y_ = (x4_1 ++ [(⟨(⟨t616, t617, t618, t619⟩ : S24), t620, t621⟩ : S26)]) := ⟨_, rfl⟩
         replace H : (galleylaw05_WeldPieces.l0 k1 y613 y622 l0 (l0.length : Int) (wrap64 (x20_1 + 1))) = some r := by first | (rw [hy622]; with_reducible exact H) | (have H2_ := (Option.bind_some _ _).symm.trans H; rw [hy622]; with_reducible exact H2_) | (have H2_ := (Option.bind_some _ _).symm.trans H; with_reducible exact H2_) | with_reducible exact H | (rw [hy622]; exact H) | exact H
         have Ny622 := Aside0.mk hy622
         clear hy622
         have H' := Aside0.mk H
         clear H
         have p612 : 0 ≤ (x20_1 : Int) := of_decide_eq_true (by first | (with_reducible assumption) | assumption)
         have q612 : x20_1 < (l0.length : Int) := of_decide_eq_true (by first | (with_reducible assumption) | assumption)
         obtain ⟨ad612, A612_0, c612_0, e612, hx612_0, hl612_0, hi612_0⟩ := at_L1 HR0.out x20_1 p612 q612
         cases e612
         replace hx612_0 := (HB.out.cell (World.block_lt_of_cell? w _ hx612_0)).trans hx612_0
         have HR612_0 := Aside0.mk hi612_0
         have HC612_0 := Aside0.mk hl612_0
         clear hi612_0 hl612_0
         replace p612 := eq_true p612
         replace q612 := eq_true q612
         go_wp2_with (first | ((with_reducible refine gate_builtin (b := .append) (xs := #[.tmp 24, .tmp 25]) rfl ?_); at_builtin; refine Kd.R_append_rows (Kd.int .u8) (w0 := w) w.heap.size rfl (.tmp 24) (.tmp 25) 29 5 (.int .u8 0) 1 rfl Tryd.underlying29 info5 rfl (by decide) (by omega) u3 x3_1 (rd_L1 l0 x20_1) _ _ _ (fun _ => True) (fun _ => False) rfl rfl ?aO ?aR (fun _ _ h => h) (fun _ h => h.elim) ?aF ?aB ?aS ?aL ?_; (case aR => repeat (first | exact (Kd.C_below HR612_0.out HB.out) | (with_reducible refine Kd.C_alloc ?_ _) | (with_reducible refine Kd.C_drewN ?_ _) | (with_reducible refine Kd.C_drew ?_))); (case aB => exact (bl HB.out)); (case aF => exact (fun _ _ => trivial)); (case aO => exact (by (with_reducible repeat (first | apply Kd.R_alloc | apply Kd.R_drewN | apply Kd.R_drew)); exact HO_3.out)); (case aS => exact (below_size (bl HB.out))); (case aL => have := LMc8.out; omega); intro v614 w11 ho hb hg hat; rw [← Ny613.out] at ho; have n0_ := Aside0.mk (Kd.R_over' (by (with_reducible repeat (first | apply Kd.R_alloc | apply Kd.R_drewN | apply Kd.R_drew)); exact HO_4.out) (Kd.R_typed (by (with_reducible repeat (first | apply Kd.R_alloc | apply Kd.R_drewN | apply Kd.R_drew)); exact HO_3.out)) (by decide) hg); have n1_ := Aside0.mk (hb); have n2_ := Aside0.mk (ho); clear HO_4; clear HB; clear HO_3; have HO_4 := n0_; have HB := n1_; have HO615 := n2_; clear n0_ n1_ n2_; clear ho hb hg hat) | ((with_reducible refine gate_callee (f := 12) rfl ?_); refine goesL_ (some 29) rfl rfl Tryd.func12 (by kernel_rfl) rfl #[.slice A612_0 (rd_L1 l0 x20_1).length c612_0] rfl (by (try simp only [List.map_toArray, List.map_cons, List.map_nil]); first | done | rfl | (simp only [List.length_drop, List.length_take]; rfl)) ?_; (with_reducible refine (weld_Of.calls _ _ (rd_L1 l0 x20_1) t616 t617 t618 t619 t620 t621 _ ?side1 ?side2 ?side3 A9.out).mono ?_); (case side1 => first | (with_reducible exact HG.out) | exact Glob.Globs_below HG.out (bl HB.out)); (case side2 => repeat (first | exact (Kd.C_below HR612_0.out HB.out) | (with_reducible refine Kd.C_alloc ?_ _) | (with_reducible refine Kd.C_drewN ?_ _) | (with_reducible refine Kd.C_drew ?_))); (case side3 => exact HC612_0.out); rintro e w12 ⟨rfl, hb⟩; refine ⟨_, rfl, ?_⟩; have n0_ := Aside0.mk (Kd.R_below (by (with_reducible repeat (first | apply Kd.R_alloc | apply Kd.R_drewN | apply Kd.R_drew)); exact HO_4.out) hb); have n1_ := Aside0.mk (Kd.R_below (by (with_reducible repeat (first | apply Kd.R_alloc | apply Kd.R_drewN | apply Kd.R_drew)); exact HO615.out) hb); have n2_ := Aside0.mk (below_step (bl HB.out) hb); clear HO_4; clear HO615; clear HB; have HO_4 := n0_; have HO615 := n1_; have HB := n2_; clear n0_ n1_ n2_; (try clear hb); (try clear hb2); (try clear hk); (try clear hi)) | ((with_reducible refine gate_builtin (b := .append) (xs := #[.tmp 27, .tmp 30]) rfl ?_); at_builtin; refine Kd.R_append k26 (w0 := w) w.heap.size rfl (.tmp 27) (.tmp 30) 27 26 (.agg #[(.int .i64 0), (.int .i64 0), (.int .i64 0), (.int .i64 0), (.string ⟨#[]⟩), (.string ⟨#[]⟩)]) 64 rfl Tryd.underlying27 info26 rfl (by decide) (by omega) u4 x4_1 (⟨(⟨t616, t617, t618, t619⟩ : S24), t620, t621⟩ : S26) [.int .i64 t616, .int .i64 t617, .int .i64 t618, .int .i64 t619, .string t620, .string t621] (fun _ => True) (fun _ => False) rfl rfl ?aP (fun _ hk => hk.elim) ?aF ?aO ?aB ?aS ?aL ?_; (case aP => exact k26_mkM _ _ _ (⟨(⟨t616, t617, t618, t619⟩ : S24), t620, t621⟩ : S26)); (case aB => exact (bl HB.out)); (case aF => exact (fun _ _ => trivial)); (case aO => exact (by (with_reducible repeat (first | apply Kd.R_alloc | apply Kd.R_drewN | apply Kd.R_drew)); exact HO_4.out)); (case aS => exact (below_size (bl HB.out))); (case aL => have := LMc10.out; omega); intro v623 w13 ho hb hg hat; rw [← Ny622.out] at ho; have n0_ := Aside0.mk (Kd.R_over' (by (with_reducible repeat (first | apply Kd.R_alloc | apply Kd.R_drewN | apply Kd.R_drew)); exact HO615.out) (Kd.R_typed (by (with_reducible repeat (first | apply Kd.R_alloc | apply Kd.R_drewN | apply Kd.R_drew)); exact HO_4.out)) (by decide) hg); have n1_ := Aside0.mk (hb); have n2_ := Aside0.mk (ho); clear HO615; clear HB; clear HO_4; have HO615 := n0_; have HB := n1_; have HO624 := n2_; clear n0_ n1_ n2_; clear ho hb hg hat))
         go_roundg k1
         case measure => have := HK1.out; omega
         case rel => exact ⟨(y613), (y622), (wrap64 (x20_1 + 1)), (by first | rfl | (simp; done) | (simp [*]; done)), H', ⟨by have := HK1.out; omega⟩, ⟨by (with_reducible repeat (first | apply Kd.R_alloc | apply Kd.R_drewN | apply Kd.R_drew)); exact HO615.out⟩, ⟨by (with_reducible repeat (first | apply Kd.R_alloc | apply Kd.R_drewN | apply Kd.R_drew)); exact HO624.out⟩, ⟨by repeat (first | (with_reducible first | exact HB.out | apply below_alloc | apply pw_below_drewN | apply below_drew1) | exact HB.out)⟩⟩
        ·rw [if_neg c10] at H
         exact absurd H (by simp)
       ·rw [if_neg c8] at H
        exact absurd H (by simp)
      ·rw [if_neg c7] at H
       exact absurd H (by simp)
     ·rw [if_neg c6] at H
      exact absurd H (by simp)
    ·rw [if_neg c5] at H
     have c5b0 : decide (x20_1 < (l0.length : Int)) = false := decide_eq_false c5
     clear c5
     by_cases c14 : (x3_1.length : Int) > 268435456
     ·rw [if_pos c14] at H
      have c14b0 : decide (268435456 < (x3_1.length : Int)) = true := decide_eq_true c14
      have c14b1 : decide (268435456 < x3_1.length) = true := decide_eq_true (by omega)
      clear c14
      obtain rfl := Option.some.inj H
      obtain ⟨Ao15, co15, eo15⟩ := Kd.R_slice HO_3.out
      subst eo15
      go_wp2
      go_ret
      exact ⟨by first | rfl | (simp [errW_none, errW_some] <;> rfl) | (simp [*, errW_none, errW_some] <;> rfl), by repeat (first | (with_reducible first | exact HB.out | apply below_alloc | apply pw_below_drewN | apply below_drew1) | exact HB.out)⟩
     ·rw [if_neg c14] at H
      have c14b0 : decide (268435456 < (x3_1.length : Int)) = false := decide_eq_false c14
      have c14b1 : decide (268435456 < x3_1.length) = false := decide_eq_false (by omega)
      clear c14
      replace H := Option.bind_eq_some_iff.mp H
      obtain ⟨⟨t625, t626, t627, t628, t629, t630⟩, A160, H⟩ := H
      replace H : ((weld_Sum.f k1 x4_1).bind fun bt632 => ((weld_Of.f ([] : List Int)).bind fun bt640 => (galleylaw05_WeldPieces.l1 k1 x4_1 bt632.2.2.2.2.2.2 (wrap64 ((x4_1.length : Int) - 1)) t625 t626 t627 t628 t629 t630 bt632.1 bt632.2.1 bt632.2.2.1 bt632.2.2.2.1 bt632.2.2.2.2.1 bt632.2.2.2.2.2.1 bt640.1 bt640.2.1 bt640.2.2.1 bt640.2.2.2.1 bt640.2.2.2.2.1 bt640.2.2.2.2.2))) = some r := H
      have A16 := Aside0.mk A160
      clear A160
      replace H := Option.bind_eq_some_iff.mp H
      obtain ⟨⟨t632, t633, t634, t635, t636, t637, t638⟩, A170, H⟩ := H
      replace H : ((weld_Of.f ([] : List Int)).bind fun bt640 => (galleylaw05_WeldPieces.l1 k1 x4_1 t638 (wrap64 ((x4_1.length : Int) - 1)) t625 t626 t627 t628 t629 t630 t632 t633 t634 t635 t636 t637 bt640.1 bt640.2.1 bt640.2.2.1 bt640.2.2.2.1 bt640.2.2.2.2.1 bt640.2.2.2.2.2)) = some r := H
      have A17 := Aside0.mk A170
      clear A170
      replace H := Option.bind_eq_some_iff.mp H
      obtain ⟨⟨t640, t641, t642, t643, t644, t645⟩, A180, H⟩ := H
      replace H : (galleylaw05_WeldPieces.l1 k1 x4_1 t638 (wrap64 ((x4_1.length : Int) - 1)) t625 t626 t627 t628 t629 t630 t632 t633 t634 t635 t636 t637 t640 t641 t642 t643 t644 t645) = some r := H
      have A18 := Aside0.mk A180
      clear A180
      have H' := Aside0.mk H
      clear H
      obtain ⟨Ao19, co19, eo19⟩ := Kd.R_slice HO_3.out
      subst eo19
      go_wp2_with (first | ((with_reducible refine gate_callee (f := 12) rfl ?_); refine goesL_ (some 37) rfl rfl Tryd.func12 (by kernel_rfl) rfl #[.slice Ao19 x3_1.length co19] rfl (by (try simp only [List.map_toArray, List.map_cons, List.map_nil]); first | done | rfl | (simp only [List.length_drop, List.length_take]; rfl)) ?_; (with_reducible refine (weld_Of.calls _ _ x3_1 t625 t626 t627 t628 t629 t630 _ ?side1 ?side2 ?side3 A16.out).mono ?_); (case side1 => first | (with_reducible exact HG.out) | exact Glob.Globs_below HG.out (bl HB.out)); (case side2 => repeat (first | exact (Kd.R_reads' HO_3.out).2.2 | (with_reducible refine Kd.C_alloc ?_ _) | (with_reducible refine Kd.C_drewN ?_ _) | (with_reducible refine Kd.C_drew ?_))); (case side3 => exact (Kd.R_reads' HO_3.out).2.1); rintro e w20 ⟨rfl, hb⟩; refine ⟨_, rfl, ?_⟩; have n0_ := Aside0.mk (Kd.R_below (by (with_reducible repeat (first | apply Kd.R_alloc | apply Kd.R_drewN | apply Kd.R_drew)); exact HO_3.out) hb); have n1_ := Aside0.mk (Kd.R_below (by (with_reducible repeat (first | apply Kd.R_alloc | apply Kd.R_drewN | apply Kd.R_drew)); exact HO_4.out) hb); have n2_ := Aside0.mk (below_step (bl HB.out) hb); clear HO_3; clear HO_4; clear HB; have HO_3 := n0_; have HO_4 := n1_; have HB := n2_; clear n0_ n1_ n2_; (try clear hb); (try clear hb2); (try clear hk); (try clear hi)) | ((with_reducible refine gate_dst (N := 7) rfl ?_); refine box_event ?hg (N := 7) ?hd (cs := #[.int .i64 0, .int .i64 0, .int .i64 0, .int .i64 0, .string (⟨#[]⟩ : ByteArray), .string (⟨#[]⟩ : ByteArray)]) (t := 26) ?hr ?_; (case hd => rfl); (case hg => rfl); (case hr => first | (go_simp; done) | (go_simp; rfl)); intro gb631 hg w21 hbox hb; have n0_ := Aside0.mk (Kd.R_below (by (with_reducible repeat (first | apply Kd.R_alloc | apply Kd.R_drewN | apply Kd.R_drew)); exact HO_3.out) hb); have n1_ := Aside0.mk (Kd.R_below (Kd.R_elderB (by (with_reducible repeat (first | apply Kd.R_alloc | apply Kd.R_drewN | apply Kd.R_drew)); exact HO_4.out) gb631 (Nat.le_of_eq hg.symm)) hb); have n2_ := Aside0.mk (below_step (bl HB.out) hb); have n3_ := Aside0.mk (hbox); have n4_ := Aside0.mk ((by rw [hg]; exact (below_size (bl HB.out)) : w.heap.size ≤ gb631)); have n5_ := Aside0.mk ((by rw [hg]; exact (below_size (bl HB.out)) : w.heap.size ≤ gb631)); clear HO_3; clear HO_4; clear HB; have HO_3 := n0_; have HO_4 := n1_; have HB := n2_; have BK631 := n3_; have GW631 := n4_; have GE631 := n5_; clear n0_ n1_ n2_ n3_ n4_ n5_; clear hb hbox hg; have hcz22_0 : w21.cell? ⟨gb631, 0, none⟩ = some (.int .i64 0) := (blk_cell BK631.out 0).trans rfl; have hcz22_1 : w21.cell? ⟨gb631, 1, none⟩ = some (.int .i64 0) := (blk_cell BK631.out 1).trans rfl; have hcz22_2 : w21.cell? ⟨gb631, 2, none⟩ = some (.int .i64 0) := (blk_cell BK631.out 2).trans rfl; have hcz22_3 : w21.cell? ⟨gb631, 3, none⟩ = some (.int .i64 0) := (blk_cell BK631.out 3).trans rfl; have hcz22_4 : w21.cell? ⟨gb631, 4, none⟩ = some (.string (⟨#[]⟩ : ByteArray)) := (blk_cell BK631.out 4).trans rfl; have hcz22_5 : w21.cell? ⟨gb631, 5, none⟩ = some (.string (⟨#[]⟩ : ByteArray)) := (blk_cell BK631.out 5).trans rfl; have hfz22_0 := blk_frozen BK631.out 0; have hfz22_1 := blk_frozen BK631.out 1; have hfz22_2 := blk_frozen BK631.out 2; have hfz22_3 := blk_frozen BK631.out 3; have hfz22_4 := blk_frozen BK631.out 4; have hfz22_5 := blk_frozen BK631.out 5; obtain ⟨Ao23, co23, eo23⟩ := Kd.R_slice HO_4.out; subst eo23) | ((with_reducible refine gate_callee (f := 21) rfl ?_); refine goesL_ (some 40) rfl rfl Tryd.func21 (by kernel_rfl) rfl #[.slice Ao23 x4_1.length co23] rfl (by (try simp only [List.map_toArray, List.map_cons, List.map_nil]); first | done | rfl | (simp only [List.length_drop, List.length_take]; rfl)) ?_; (with_reducible refine (weld_Sum.calls k1 _ _ x4_1 t632 t633 t634 t635 t636 t637 t638 _ ?side1 ?side2 ?side3 A17.out).mono ?_); (case side1 => first | (with_reducible exact HG.out) | exact Glob.Globs_below HG.out (by repeat (first | (with_reducible first | exact HB.out | apply below_alloc | apply pw_below_drewN | apply below_drew1 | refine below_set ?_ GE631.out) | exact HB.out))); (case side2 => refine (Kd.R_reads' (e := 26) (base := w.heap.size) (ok := fun k_ => (True ∧ k_ ≠ gb631)) (n := x4_1.length) (c := co23) ?_).2.2; exact (by (with_reducible repeat (first | apply Kd.R_alloc | apply Kd.R_drewN | apply Kd.R_drew)); exact (Kd.R_mono (Kd.R_far (p := ⟨gb631, 5, none⟩) (Kd.R_far (p := ⟨gb631, 4, none⟩) (Kd.R_far (p := ⟨gb631, 3, none⟩) (Kd.R_far (p := ⟨gb631, 2, none⟩) (Kd.R_far (p := ⟨gb631, 1, none⟩) (Kd.R_far (p := ⟨gb631, 0, none⟩) (Kd.R_mono HO_4.out (fun k_ hk => (⟨hk, hk.2⟩ : _ ∧ k_ ≠ gb631))) (fun _ hk => hk.2) (.int .i64 t625)) (fun _ hk => hk.2) (.int .i64 t626)) (fun _ hk => hk.2) (.int .i64 t627)) (fun _ hk => hk.2) (.int .i64 t628)) (fun _ hk => hk.2) (.string t629)) (fun _ hk => hk.2) (.string t630)) (fun _ h_ => h_.1)))); (case side3 => exact (Kd.R_reads' HO_4.out).2.1); rintro e w24 ⟨rfl, hb⟩; refine ⟨_, rfl, ?_⟩; have n0_ := Aside0.mk (Kd.R_below (by (with_reducible repeat (first | apply Kd.R_alloc | apply Kd.R_drewN | apply Kd.R_drew)); exact (Kd.R_mono (Kd.R_far (p := ⟨gb631, 5, none⟩) (Kd.R_far (p := ⟨gb631, 4, none⟩) (Kd.R_far (p := ⟨gb631, 3, none⟩) (Kd.R_far (p := ⟨gb631, 2, none⟩) (Kd.R_far (p := ⟨gb631, 1, none⟩) (Kd.R_far (p := ⟨gb631, 0, none⟩) (Kd.R_types HO_3.out BK631.out (by decide)) (fun _ hk => hk.2) (.int .i64 t625)) (fun _ hk => hk.2) (.int .i64 t626)) (fun _ hk => hk.2) (.int .i64 t627)) (fun _ hk => hk.2) (.int .i64 t628)) (fun _ hk => hk.2) (.string t629)) (fun _ hk => hk.2) (.string t630)) (fun _ h_ => h_.1))) hb); have n1_ := Aside0.mk (Kd.R_below (by (with_reducible repeat (first | apply Kd.R_alloc | apply Kd.R_drewN | apply Kd.R_drew)); exact (Kd.R_mono (Kd.R_far (p := ⟨gb631, 5, none⟩) (Kd.R_far (p := ⟨gb631, 4, none⟩) (Kd.R_far (p := ⟨gb631, 3, none⟩) (Kd.R_far (p := ⟨gb631, 2, none⟩) (Kd.R_far (p := ⟨gb631, 1, none⟩) (Kd.R_far (p := ⟨gb631, 0, none⟩) (Kd.R_mono HO_4.out (fun k_ hk => (⟨hk, hk.2⟩ : _ ∧ k_ ≠ gb631))) (fun _ hk => hk.2) (.int .i64 t625)) (fun _ hk => hk.2) (.int .i64 t626)) (fun _ hk => hk.2) (.int .i64 t627)) (fun _ hk => hk.2) (.int .i64 t628)) (fun _ hk => hk.2) (.string t629)) (fun _ hk => hk.2) (.string t630)) (fun _ h_ => h_.1))) hb); have n2_ := Aside0.mk (blk_below (g := gb631) (o := .cells #[.int .i64 t625, .int .i64 t626, .int .i64 t627, .int .i64 t628, .string t629, .string t630] 26 (0, 0)) (by refine pl ?_; refine blk_put (cs := #[.int .i64 t625, .int .i64 t626, .int .i64 t627, .int .i64 t628, .string t629, .string (⟨#[]⟩ : ByteArray)]) ?_ 5 _ rfl; refine pl ?_; refine blk_put (cs := #[.int .i64 t625, .int .i64 t626, .int .i64 t627, .int .i64 t628, .string (⟨#[]⟩ : ByteArray), .string (⟨#[]⟩ : ByteArray)]) ?_ 4 _ rfl; refine pl ?_; refine blk_put (cs := #[.int .i64 t625, .int .i64 t626, .int .i64 t627, .int .i64 0, .string (⟨#[]⟩ : ByteArray), .string (⟨#[]⟩ : ByteArray)]) ?_ 3 _ rfl; refine pl ?_; refine blk_put (cs := #[.int .i64 t625, .int .i64 t626, .int .i64 0, .int .i64 0, .string (⟨#[]⟩ : ByteArray), .string (⟨#[]⟩ : ByteArray)]) ?_ 2 _ rfl; refine pl ?_; refine blk_put (cs := #[.int .i64 t625, .int .i64 0, .int .i64 0, .int .i64 0, .string (⟨#[]⟩ : ByteArray), .string (⟨#[]⟩ : ByteArray)]) ?_ 1 _ rfl; refine pl ?_; refine blk_put (cs := #[.int .i64 0, .int .i64 0, .int .i64 0, .int .i64 0, .string (⟨#[]⟩ : ByteArray), .string (⟨#[]⟩ : ByteArray)]) ?_ 0 _ rfl; refine pl ?_; exact BK631.out) hb); have n3_ := Aside0.mk (below_step (by repeat (first | (with_reducible first | exact HB.out | apply below_alloc | apply pw_below_drewN | apply below_drew1 | refine below_set ?_ GE631.out) | exact HB.out)) hb); clear HO_3; clear HO_4; clear BK631; clear HB; have HO_3 := n0_; have HO_4 := n1_; have BK631 := n2_; have HB := n3_; clear n0_ n1_ n2_ n3_; (try clear hb); (try clear hb2); (try clear hk); (try clear hi)) | ((with_reducible refine gate_dst (N := 8) rfl ?_); refine box_event ?hg (N := 8) ?hd (cs := #[.int .i64 0, .int .i64 0, .int .i64 0, .int .i64 0, .string (⟨#[]⟩ : ByteArray), .string (⟨#[]⟩ : ByteArray)]) (t := 26) ?hr ?_; (case hd => rfl); (case hg => rfl); (case hr => first | (go_simp; done) | (go_simp; rfl)); intro gb639 hg w25 hbox hb; have n0_ := Aside0.mk (Kd.R_below (by (with_reducible repeat (first | apply Kd.R_alloc | apply Kd.R_drewN | apply Kd.R_drew)); exact HO_3.out) hb); have n1_ := Aside0.mk (Kd.R_below (Kd.R_elderB (by (with_reducible repeat (first | apply Kd.R_alloc | apply Kd.R_drewN | apply Kd.R_drew)); exact HO_4.out) gb639 (Nat.le_of_eq hg.symm)) hb); have n2_ := Aside0.mk (blk_below (pl BK631.out) hb); have n3_ := Aside0.mk (below_step (by repeat (first | (with_reducible first | exact HB.out | apply below_alloc | apply pw_below_drewN | apply below_drew1 | refine below_set ?_ GE631.out) | exact HB.out)) hb); have n4_ := Aside0.mk (hbox); have n5_ := Aside0.mk ((by rw [hg]; exact (below_size (by repeat (first | (with_reducible first | exact HB.out | apply below_alloc | apply pw_below_drewN | apply below_drew1 | refine below_set ?_ GE631.out) | exact HB.out))) : w.heap.size ≤ gb639)); have n6_ := Aside0.mk ((by rw [hg]; exact (below_size (by repeat (first | (with_reducible first | exact HB.out | apply below_alloc | apply pw_below_drewN | apply below_drew1 | refine below_set ?_ GE631.out) | exact HB.out))) : w.heap.size ≤ gb639)); have n7_ := Aside0.mk ((by rw [hg]; exact Nat.ne_of_lt (blk_lt (pl BK631.out)) : gb631 ≠ gb639)); have n8_ := Aside0.mk ((by rw [hg]; exact Nat.ne_of_gt (blk_lt (pl BK631.out)) : gb639 ≠ gb631)); clear HO_3; clear HO_4; clear BK631; clear HB; have HO_3 := n0_; have HO_4 := n1_; have BK631 := n2_; have HB := n3_; have BK639 := n4_; have GW639 := n5_; have GE639 := n6_; have NB631_639 := n7_; have NB639_631 := n8_; clear n0_ n1_ n2_ n3_ n4_ n5_ n6_ n7_ n8_; clear hb hbox hg; have hnb26 := NB639_631.out; have hnc26 := NB631_639.out; have hcz27_0 : w25.cell? ⟨gb639, 0, none⟩ = some (.int .i64 0) := (blk_cell BK639.out 0).trans rfl; have hcz27_1 : w25.cell? ⟨gb639, 1, none⟩ = some (.int .i64 0) := (blk_cell BK639.out 1).trans rfl; have hcz27_2 : w25.cell? ⟨gb639, 2, none⟩ = some (.int .i64 0) := (blk_cell BK639.out 2).trans rfl; have hcz27_3 : w25.cell? ⟨gb639, 3, none⟩ = some (.int .i64 0) := (blk_cell BK639.out 3).trans rfl; have hcz27_4 : w25.cell? ⟨gb639, 4, none⟩ = some (.string (⟨#[]⟩ : ByteArray)) := (blk_cell BK639.out 4).trans rfl; have hcz27_5 : w25.cell? ⟨gb639, 5, none⟩ = some (.string (⟨#[]⟩ : ByteArray)) := (blk_cell BK639.out 5).trans rfl; have hfz27_0 := blk_frozen BK639.out 0; have hfz27_1 := blk_frozen BK639.out 1; have hfz27_2 := blk_frozen BK639.out 2; have hfz27_3 := blk_frozen BK639.out 3; have hfz27_4 := blk_frozen BK639.out 4; have hfz27_5 := blk_frozen BK639.out 5) | ((with_reducible refine gate_callee (f := 12) rfl ?_); refine goesL_ (some 43) rfl rfl Tryd.func12 (by kernel_rfl) rfl #[.slice none 0 0] rfl (by (try simp only [List.map_toArray, List.map_cons, List.map_nil]); first | done | rfl | (simp only [List.length_drop, List.length_take]; rfl)) ?_; (refine (weld_Of.calls _ _ ([] : List Int) t640 t641 t642 t643 t644 t645 _ ?side1 ?side2 ?side3 A18.out).mono ?_); (case side1 => first | (with_reducible exact HG.out) | exact Glob.Globs_below HG.out (by repeat (first | (with_reducible first | exact HB.out | apply below_alloc | apply pw_below_drewN | apply below_drew1 | refine below_set ?_ GE631.out | refine below_set ?_ GE639.out) | exact HB.out))); (case side2 => exact Kd.C_nil _ _); (case side3 => exact Nat.le_refl _); rintro e w28 ⟨rfl, hb⟩; refine ⟨_, rfl, ?_⟩; have n0_ := Aside0.mk (Kd.R_below (by (with_reducible repeat (first | apply Kd.R_alloc | apply Kd.R_drewN | apply Kd.R_drew)); exact (Kd.R_mono (Kd.R_far (p := ⟨gb639, 5, none⟩) (Kd.R_far (p := ⟨gb639, 4, none⟩) (Kd.R_far (p := ⟨gb639, 3, none⟩) (Kd.R_far (p := ⟨gb639, 2, none⟩) (Kd.R_far (p := ⟨gb639, 1, none⟩) (Kd.R_far (p := ⟨gb639, 0, none⟩) (Kd.R_types HO_3.out BK639.out (by decide)) (fun _ hk => hk.2) (.int .i64 t632)) (fun _ hk => hk.2) (.int .i64 t633)) (fun _ hk => hk.2) (.int .i64 t634)) (fun _ hk => hk.2) (.int .i64 t635)) (fun _ hk => hk.2) (.string t636)) (fun _ hk => hk.2) (.string t637)) (fun _ h_ => h_.1))) hb); have n1_ := Aside0.mk (Kd.R_below (by (with_reducible repeat (first | apply Kd.R_alloc | apply Kd.R_drewN | apply Kd.R_drew)); exact (Kd.R_mono (Kd.R_far (p := ⟨gb639, 5, none⟩) (Kd.R_far (p := ⟨gb639, 4, none⟩) (Kd.R_far (p := ⟨gb639, 3, none⟩) (Kd.R_far (p := ⟨gb639, 2, none⟩) (Kd.R_far (p := ⟨gb639, 1, none⟩) (Kd.R_far (p := ⟨gb639, 0, none⟩) (Kd.R_mono HO_4.out (fun k_ hk => (⟨hk, hk.2⟩ : _ ∧ k_ ≠ gb639))) (fun _ hk => hk.2) (.int .i64 t632)) (fun _ hk => hk.2) (.int .i64 t633)) (fun _ hk => hk.2) (.int .i64 t634)) (fun _ hk => hk.2) (.int .i64 t635)) (fun _ hk => hk.2) (.string t636)) (fun _ hk => hk.2) (.string t637)) (fun _ h_ => h_.1))) hb); have n2_ := Aside0.mk (blk_below (g := gb631) (o := .cells #[.int .i64 t625, .int .i64 t626, .int .i64 t627, .int .i64 t628, .string t629, .string t630] 26 (0, 0)) (by refine pl ?_; refine blk_far ?_ NB631_639.out _; refine pl ?_; refine blk_far ?_ NB631_639.out _; refine pl ?_; refine blk_far ?_ NB631_639.out _; refine pl ?_; refine blk_far ?_ NB631_639.out _; refine pl ?_; refine blk_far ?_ NB631_639.out _; refine pl ?_; refine blk_far ?_ NB631_639.out _; refine pl ?_; exact BK631.out) hb); have n3_ := Aside0.mk (blk_below (g := gb639) (o := .cells #[.int .i64 t632, .int .i64 t633, .int .i64 t634, .int .i64 t635, .string t636, .string t637] 26 (0, 0)) (by refine pl ?_; refine blk_put (cs := #[.int .i64 t632, .int .i64 t633, .int .i64 t634, .int .i64 t635, .string t636, .string (⟨#[]⟩ : ByteArray)]) ?_ 5 _ rfl; refine pl ?_; refine blk_put (cs := #[.int .i64 t632, .int .i64 t633, .int .i64 t634, .int .i64 t635, .string (⟨#[]⟩ : ByteArray), .string (⟨#[]⟩ : ByteArray)]) ?_ 4 _ rfl; refine pl ?_; refine blk_put (cs := #[.int .i64 t632, .int .i64 t633, .int .i64 t634, .int .i64 0, .string (⟨#[]⟩ : ByteArray), .string (⟨#[]⟩ : ByteArray)]) ?_ 3 _ rfl; refine pl ?_; refine blk_put (cs := #[.int .i64 t632, .int .i64 t633, .int .i64 0, .int .i64 0, .string (⟨#[]⟩ : ByteArray), .string (⟨#[]⟩ : ByteArray)]) ?_ 2 _ rfl; refine pl ?_; refine blk_put (cs := #[.int .i64 t632, .int .i64 0, .int .i64 0, .int .i64 0, .string (⟨#[]⟩ : ByteArray), .string (⟨#[]⟩ : ByteArray)]) ?_ 1 _ rfl; refine pl ?_; refine blk_put (cs := #[.int .i64 0, .int .i64 0, .int .i64 0, .int .i64 0, .string (⟨#[]⟩ : ByteArray), .string (⟨#[]⟩ : ByteArray)]) ?_ 0 _ rfl; refine pl ?_; exact BK639.out) hb); have n4_ := Aside0.mk (below_step (by repeat (first | (with_reducible first | exact HB.out | apply below_alloc | apply pw_below_drewN | apply below_drew1 | refine below_set ?_ GE631.out | refine below_set ?_ GE639.out) | exact HB.out)) hb); clear HO_3; clear HO_4; clear BK631; clear BK639; clear HB; have HO_3 := n0_; have HO_4 := n1_; have BK631 := n2_; have BK639 := n3_; have HB := n4_; clear n0_ n1_ n2_ n3_ n4_; (try clear hb); (try clear hb2); (try clear hk); (try clear hi)) | ((with_reducible refine gate_dst (N := 10) rfl ?_); refine box_event ?hg (N := 10) ?hd (cs := #[.int .i64 0, .int .i64 0, .int .i64 0, .int .i64 0, .string (⟨#[]⟩ : ByteArray), .string (⟨#[]⟩ : ByteArray)]) (t := 26) ?hr ?_; (case hd => rfl); (case hg => rfl); (case hr => first | (go_simp; done) | (go_simp; rfl)); intro gb646 hg w29 hbox hb; have n0_ := Aside0.mk (Kd.R_below (by (with_reducible repeat (first | apply Kd.R_alloc | apply Kd.R_drewN | apply Kd.R_drew)); exact HO_3.out) hb); have n1_ := Aside0.mk (Kd.R_below (Kd.R_elderB (by (with_reducible repeat (first | apply Kd.R_alloc | apply Kd.R_drewN | apply Kd.R_drew)); exact HO_4.out) gb646 (Nat.le_of_eq hg.symm)) hb); have n2_ := Aside0.mk (blk_below (pl BK631.out) hb); have n3_ := Aside0.mk (blk_below (pl BK639.out) hb); have n4_ := Aside0.mk (below_step (by repeat (first | (with_reducible first | exact HB.out | apply below_alloc | apply pw_below_drewN | apply below_drew1 | refine below_set ?_ GE631.out | refine below_set ?_ GE639.out) | exact HB.out)) hb); have n5_ := Aside0.mk (hbox); have n6_ := Aside0.mk ((by rw [hg]; exact (below_size (by repeat (first | (with_reducible first | exact HB.out | apply below_alloc | apply pw_below_drewN | apply below_drew1 | refine below_set ?_ GE631.out | refine below_set ?_ GE639.out) | exact HB.out))) : w.heap.size ≤ gb646)); have n7_ := Aside0.mk ((by rw [hg]; exact (below_size (by repeat (first | (with_reducible first | exact HB.out | apply below_alloc | apply pw_below_drewN | apply below_drew1 | refine below_set ?_ GE631.out | refine below_set ?_ GE639.out) | exact HB.out))) : w.heap.size ≤ gb646)); have n8_ := Aside0.mk ((by rw [hg]; exact Nat.ne_of_lt (blk_lt (pl BK631.out)) : gb631 ≠ gb646)); have n9_ := Aside0.mk ((by rw [hg]; exact Nat.ne_of_gt (blk_lt (pl BK631.out)) : gb646 ≠ gb631)); have n10_ := Aside0.mk ((by rw [hg]; exact Nat.ne_of_lt (blk_lt (pl BK639.out)) : gb639 ≠ gb646)); have n11_ := Aside0.mk ((by rw [hg]; exact Nat.ne_of_gt (blk_lt (pl BK639.out)) : gb646 ≠ gb639)); clear HO_3; clear HO_4; clear BK631; clear BK639; clear HB; have HO_3 := n0_; have HO_4 := n1_; have BK631 := n2_; have BK639 := n3_; have HB := n4_; have BK646 := n5_; have GW646 := n6_; have GE646 := n7_; have NB631_646 := n8_; have NB646_631 := n9_; have NB639_646 := n10_; have NB646_639 := n11_; clear n0_ n1_ n2_ n3_ n4_ n5_ n6_ n7_ n8_ n9_ n10_ n11_; clear hb hbox hg; have hnb30 := NB646_631.out; have hnc30 := NB631_646.out; have hnb31 := NB646_639.out; have hnc31 := NB639_646.out; have hcz32_0 : w29.cell? ⟨gb646, 0, none⟩ = some (.int .i64 0) := (blk_cell BK646.out 0).trans rfl; have hcz32_1 : w29.cell? ⟨gb646, 1, none⟩ = some (.int .i64 0) := (blk_cell BK646.out 1).trans rfl; have hcz32_2 : w29.cell? ⟨gb646, 2, none⟩ = some (.int .i64 0) := (blk_cell BK646.out 2).trans rfl; have hcz32_3 : w29.cell? ⟨gb646, 3, none⟩ = some (.int .i64 0) := (blk_cell BK646.out 3).trans rfl; have hcz32_4 : w29.cell? ⟨gb646, 4, none⟩ = some (.string (⟨#[]⟩ : ByteArray)) := (blk_cell BK646.out 4).trans rfl; have hcz32_5 : w29.cell? ⟨gb646, 5, none⟩ = some (.string (⟨#[]⟩ : ByteArray)) := (blk_cell BK646.out 5).trans rfl; have hfz32_0 := blk_frozen BK646.out 0; have hfz32_1 := blk_frozen BK646.out 1; have hfz32_2 := blk_frozen BK646.out 2; have hfz32_3 := blk_frozen BK646.out 3; have hfz32_4 := blk_frozen BK646.out 4; have hfz32_5 := blk_frozen BK646.out 5))
      go_loopg [11] k1 (fun kq v11 w' => ∃ (x11_2 : Int) (x647000_2 : Int) (x647001_2 : Int) (x647002_2 : Int) (x647003_2 : Int) (x647004_2 : ByteArray) (x647005_2 : ByteArray), v11 = .int .i64 x11_2 ∧ Aside0 (galleylaw05_WeldPieces.l1 kq x4_1 t638 x11_2 t625 t626 t627 t628 t629 t630 t632 t633 t634 t635 t636 t637 x647000_2 x647001_2 x647002_2 x647003_2 x647004_2 x647005_2 = some r) ∧ Aside0 (kq ≤ k1) ∧ Aside0 (Kd.R k26 26 w' w.heap.size (fun k_ => k_ ≠ gb631 ∧ k_ ≠ gb639 ∧ k_ ≠ gb646) (.slice Ao23 x4_1.length co23) x4_1) ∧ Aside0 (w'.heap[gb631]? = some (.cells #[.int .i64 t625, .int .i64 t626, .int .i64 t627, .int .i64 t628, .string t629, .string t630] 26 (0, 0))) ∧ Aside0 (w'.heap[gb639]? = some (.cells #[.int .i64 t632, .int .i64 t633, .int .i64 t634, .int .i64 t635, .string t636, .string t637] 26 (0, 0))) ∧ Aside0 (w'.heap[gb646]? = some (.cells #[.int .i64 x647000_2, .int .i64 x647001_2, .int .i64 x647002_2, .int .i64 x647003_2, .string x647004_2, .string x647005_2] 26 (0, 0))) ∧ Aside0 (Below w.heap.size w w'))
      case atStart => exact ⟨(wrap64 ((x4_1.length : Int) - 1)), (t640), (t641), (t642), (t643), (t644), (t645), (by first | rfl | (simp; done) | (simp [*]; done)), H', ⟨Nat.le_refl _⟩, ⟨by (with_reducible repeat (first | apply Kd.R_alloc | apply Kd.R_drewN | apply Kd.R_drew)); exact Kd.R_mono (Kd.R_far (p := ⟨gb646, 5, none⟩) (Kd.R_far (p := ⟨gb646, 4, none⟩) (Kd.R_far (p := ⟨gb646, 3, none⟩) (Kd.R_far (p := ⟨gb646, 2, none⟩) (Kd.R_far (p := ⟨gb646, 1, none⟩) (Kd.R_far (p := ⟨gb646, 0, none⟩) (Kd.R_mono HO_4.out (fun k_ hk => (⟨hk, hk.2⟩ : _ ∧ k_ ≠ gb646))) (fun _ hk => hk.2) (.int .i64 t640)) (fun _ hk => hk.2) (.int .i64 t641)) (fun _ hk => hk.2) (.int .i64 t642)) (fun _ hk => hk.2) (.int .i64 t643)) (fun _ hk => hk.2) (.string t644)) (fun _ hk => hk.2) (.string t645)) (fun _ hk => ⟨hk.1.1.1.2, ⟨hk.1.1.2, hk.1.2⟩⟩)⟩, ⟨by refine pl ?_; refine blk_far ?_ NB631_646.out _; refine pl ?_; refine blk_far ?_ NB631_646.out _; refine pl ?_; refine blk_far ?_ NB631_646.out _; refine pl ?_; refine blk_far ?_ NB631_646.out _; refine pl ?_; refine blk_far ?_ NB631_646.out _; refine pl ?_; refine blk_far ?_ NB631_646.out _; refine pl ?_; exact BK631.out⟩, ⟨by refine pl ?_; refine blk_far ?_ NB639_646.out _; refine pl ?_; refine blk_far ?_ NB639_646.out _; refine pl ?_; refine blk_far ?_ NB639_646.out _; refine pl ?_; refine blk_far ?_ NB639_646.out _; refine pl ?_; refine blk_far ?_ NB639_646.out _; refine pl ?_; refine blk_far ?_ NB639_646.out _; refine pl ?_; exact BK639.out⟩, ⟨by refine pl ?_; refine blk_put (cs := #[.int .i64 t640, .int .i64 t641, .int .i64 t642, .int .i64 t643, .string t644, .string (⟨#[]⟩ : ByteArray)]) ?_ 5 _ rfl; refine pl ?_; refine blk_put (cs := #[.int .i64 t640, .int .i64 t641, .int .i64 t642, .int .i64 t643, .string (⟨#[]⟩ : ByteArray), .string (⟨#[]⟩ : ByteArray)]) ?_ 4 _ rfl; refine pl ?_; refine blk_put (cs := #[.int .i64 t640, .int .i64 t641, .int .i64 t642, .int .i64 0, .string (⟨#[]⟩ : ByteArray), .string (⟨#[]⟩ : ByteArray)]) ?_ 3 _ rfl; refine pl ?_; refine blk_put (cs := #[.int .i64 t640, .int .i64 t641, .int .i64 0, .int .i64 0, .string (⟨#[]⟩ : ByteArray), .string (⟨#[]⟩ : ByteArray)]) ?_ 2 _ rfl; refine pl ?_; refine blk_put (cs := #[.int .i64 t640, .int .i64 0, .int .i64 0, .int .i64 0, .string (⟨#[]⟩ : ByteArray), .string (⟨#[]⟩ : ByteArray)]) ?_ 1 _ rfl; refine pl ?_; refine blk_put (cs := #[.int .i64 0, .int .i64 0, .int .i64 0, .int .i64 0, .string (⟨#[]⟩ : ByteArray), .string (⟨#[]⟩ : ByteArray)]) ?_ 0 _ rfl; refine pl ?_; exact BK646.out⟩, ⟨by repeat (first | (with_reducible first | exact HB.out | apply below_alloc | apply pw_below_drewN | apply below_drew1 | refine below_set ?_ GE631.out | refine below_set ?_ GE639.out | refine below_set ?_ GE646.out) | exact HB.out)⟩⟩
      case round =>
       clear H'
       try clear c1
       try clear c2
       try clear p2
       try clear c3
       try clear c5
       try clear c5b0
       try clear c6
       try clear c6b0
       try clear p6
       try clear q6
       try clear hx6
       try clear c7
       try clear c7b0
       try clear c8
       try clear c9
       try clear c10
       try clear c12
       try clear c14
       try clear c14b0
       try clear c14b1
       try clear c21
       try clear c26
       try clear c30
       try clear c31
       try clear hcz22_0
       try clear hcz22_1
       try clear hcz22_2
       try clear hcz22_3
       try clear hcz22_4
       try clear hcz22_5
       try clear hcz27_0
       try clear hcz27_1
       try clear hcz27_2
       try clear hcz27_3
       try clear hcz27_4
       try clear hcz27_5
       try clear hcz32_0
       try clear hcz32_1
       try clear hcz32_2
       try clear hcz32_3
       try clear hcz32_4
       try clear hcz32_5
       try clear hfz22_0
       try clear hfz22_1
       try clear hfz22_2
       try clear hfz22_3
       try clear hfz22_4
       try clear hfz22_5
       try clear hfz27_0
       try clear hfz27_1
       try clear hfz27_2
       try clear hfz27_3
       try clear hfz27_4
       try clear hfz27_5
       try clear hfz32_0
       try clear hfz32_1
       try clear hfz32_2
       try clear hfz32_3
       try clear hfz32_4
       try clear hfz32_5
       try clear hx612_0
       try clear p2
       try clear p612
       try clear q612
       obtain ⟨x11_2, x647000_2, x647001_2, x647002_2, x647003_2, x647004_2, x647005_2, rfl, HA, HK2, HO_4, BK631, BK639, BK646, HB⟩ := hrel
       cases gk with
       | zero => exact absurd HA.out (by simp [galleylaw05_WeldPieces.l1])
       | succ k2 =>
        have H := HA.out
        clear HA
        simp only [galleylaw05_WeldPieces.l1] at H
        by_cases c33 : x11_2 ≥ 0
        ·rw [if_pos c33] at H
         have c33b0 : decide (0 ≤ x11_2) = true := decide_eq_true c33
         clear c33
         by_cases c34 : 0 ≤ x11_2
         ·rw [if_pos c34] at H
          have c34b0 : decide (0 ≤ x11_2) = true := decide_eq_true c34
          clear c34
          by_cases c35 : x11_2 < (x4_1.length : Int)
          ·rw [if_pos c35] at H
           have c35b0 : decide (x11_2 < (x4_1.length : Int)) = true := decide_eq_true c35
           clear c35
           replace H := Option.bind_eq_some_iff.mp H
           obtain ⟨⟨t648, t649, t650, t651, t652, t653, t654⟩, A360, H⟩ := H
           replace H : (if t654 = 0 then (galleylaw05_WeldPieces.l1 k2 x4_1 t638 (wrap64 (x11_2 - 1)) t625 t626 t627 t628 t629 t630 t632 t633 t634 t635 t636 t637 t648 t649 t650 t651 t652 t653) else (none)) = some r := H
           have A36 := Aside0.mk A360
           clear A360
           by_cases c37 : t654 = 0
           ·rw [if_pos c37] at H
            have c37b0 : (t654 == 0) = true := beq_iff_eq.mpr c37
            have c37b1 : (t654 != 0) = false := bne_eq_false_iff_eq.mpr c37
            clear c37
            have H' := Aside0.mk H
            clear H
            try go_wp2
            have n0_ := Aside0.mk (Kd.R_drew HO_4.out)
            have n1_ := Aside0.mk (blk_drew BK631.out)
            have n2_ := Aside0.mk (blk_drew BK639.out)
            have n3_ := Aside0.mk (blk_drew BK646.out)
            have n4_ := Aside0.mk (below_drew1 HB.out)
            clear HO_4
            clear BK631
            clear BK639
            clear BK646
            clear HB
            have HO_4 := n0_
            have BK631 := n1_
            have BK639 := n2_
            have BK646 := n3_
            have HB := n4_
            clear n0_ n1_ n2_ n3_ n4_
            have p647 : 0 ≤ (x11_2 : Int) := of_decide_eq_true (by first | (with_reducible assumption) | assumption)
            have q647 : x11_2 < (x4_1.length : Int) := of_decide_eq_true (by first | (with_reducible assumption) | assumption)
            obtain ⟨ad647, e647, hx647_0, hx647_1, hx647_2, hx647_3, hx647_4, hx647_5⟩ := at_T26 (Kd.R_reads' HO_4.out).2.2 x11_2 p647 q647
            cases e647
            replace p647 := eq_true p647
            replace q647 := eq_true q647
            refine start_ (n := 12) (S := fun w' => w'.cell? ⟨gb646, 0, none⟩ = some (.int .i64 x647000_2) ∧ w'.cell? ⟨gb646, 1, none⟩ = some (.int .i64 x647001_2) ∧ w'.cell? ⟨gb646, 2, none⟩ = some (.int .i64 x647002_2) ∧ w'.cell? ⟨gb646, 3, none⟩ = some (.int .i64 x647003_2) ∧ w'.cell? ⟨gb646, 4, none⟩ = some (.string x647004_2) ∧ w'.cell? ⟨gb646, 5, none⟩ = some (.string x647005_2) ∧ w'.cell? (ad647.add ((x11_2).toNat * 6)) = some (.int .i64 ((rd_T26 x4_1 x11_2).f0.f0)) ∧ w'.cell? ⟨(ad647.add ((x11_2).toNat * 6)).block, (ad647.add ((x11_2).toNat * 6)).off + 1, none⟩ = some (.int .i64 ((rd_T26 x4_1 x11_2).f0.f1)) ∧ w'.cell? ⟨(ad647.add ((x11_2).toNat * 6)).block, (ad647.add ((x11_2).toNat * 6)).off + 2, none⟩ = some (.int .i64 ((rd_T26 x4_1 x11_2).f0.f2)) ∧ w'.cell? ⟨(ad647.add ((x11_2).toNat * 6)).block, (ad647.add ((x11_2).toNat * 6)).off + 3, none⟩ = some (.int .i64 ((rd_T26 x4_1 x11_2).f0.f3)) ∧ w'.cell? ⟨(ad647.add ((x11_2).toNat * 6)).block, (ad647.add ((x11_2).toNat * 6)).off + 4, none⟩ = some (.string ((rd_T26 x4_1 x11_2).f1)) ∧ w'.cell? ⟨(ad647.add ((x11_2).toNat * 6)).block, (ad647.add ((x11_2).toNat * 6)).off + 5, none⟩ = some (.string ((rd_T26 x4_1 x11_2).f2))) (ds := []) #[false, false, false, false, false, false, false, false, false, false, false, false] (by kernel_rfl) rfl rfl ⟨(blk_cell BK646.out 0).trans rfl, (blk_cell BK646.out 1).trans rfl, (blk_cell BK646.out 2).trans rfl, (blk_cell BK646.out 3).trans rfl, (blk_cell BK646.out 4).trans rfl, (blk_cell BK646.out 5).trans rfl, hx647_0, hx647_1, hx647_2, hx647_3, hx647_4, hx647_5⟩ (fun hHeld => ?_); refine with_tabW galleylaw05_WeldPieces.tab19 galleylaw05_WeldPieces.bits19 (fun HT_ HW_ => ?_)
            generalize wr.drew = w38 at HO_4 BK631 BK639 BK646 HB hx647_0 hx647_1 hx647_2 hx647_3 hx647_4 hx647_5 hHeld ⊢
            refine pure_ (i := 0) (N := some 52) (v := ?_) (a' := ?_) #[true, false, false, false, false, false, false, false, false, false, false, false] rfl rfl (any_of HT_.out (by kernel_rfl)) (fun _ _ _ h => h) (Or.inl ⟨by rfl, ?_⟩) ?_ ?_
            rotate_left
            ·intro w'
             go_simp
             with_reducible rfl
            rotate_left
            ·simp only [Act.put, List.setIfInBounds_toArray, List.set_cons_zero, List.set_cons_succ, i64_w, i32_w]
             rfl
            refine pure_ (i := 1) (N := some 53) (v := ?_) (a' := ?_) #[true, true, false, false, false, false, false, false, false, false, false, false] rfl rfl (any_of HT_.out (by kernel_rfl)) (fun _ _ _ h => h) (Or.inl ⟨by rfl, ?_⟩) ?_ ?_
            rotate_left
            ·intro w'
             go_simp
             with_reducible rfl
            rotate_left
            ·simp only [Act.put, List.setIfInBounds_toArray, List.set_cons_zero, List.set_cons_succ, i64_w, i32_w]
             rfl
            refine pure_ (i := 2) (N := some 54) (v := ?_) (a' := ?_) #[true, true, true, false, false, false, false, false, false, false, false, false] rfl rfl (any_of HT_.out (by kernel_rfl)) (fun _ _ _ h => h) (Or.inl ⟨by rfl, ?_⟩) ?_ ?_
            rotate_left
            ·intro w'
             go_simp
             with_reducible rfl
            rotate_left
            ·simp only [Act.put, List.setIfInBounds_toArray, List.set_cons_zero, List.set_cons_succ, i64_w, i32_w]
             rfl
            refine take_ (i := 3) (N := some 55) (v := ?_) (a' := ?_) #[true, true, true, true, false, false, false, false, false, false, false, false] rfl rfl (take_ofW HT_.out HW_.out (by kernel_rfl)) (fun _ _ _ h => h) (Or.inl ⟨by rfl, ?_⟩) hHeld ?_ ?_
            rotate_left
            ·rintro w' ⟨s0, s1, s2, s3, s4, s5, s6, s7, s8, s9, s10, s11⟩
             go_simp
             with_reducible rfl
            rotate_left
            ·simp only [Act.put, List.setIfInBounds_toArray, List.set_cons_zero, List.set_cons_succ, i64_w, i32_w]
             rfl
            refine take_ (i := 4) (N := some 56) (v := ?_) (a' := ?_) #[true, true, true, true, true, false, false, false, false, false, false, false] rfl rfl (take_ofW HT_.out HW_.out (by kernel_rfl)) (fun _ _ _ h => h) (Or.inl ⟨by rfl, ?_⟩) hHeld ?_ ?_
            rotate_left
            ·rintro w' ⟨s0, s1, s2, s3, s4, s5, s6, s7, s8, s9, s10, s11⟩
             go_simp
             with_reducible rfl
            rotate_left
            ·simp only [Act.put, List.setIfInBounds_toArray, List.set_cons_zero, List.set_cons_succ, i64_w, i32_w]
             rfl
            refine join_ (σ := Nat) 2 #[true, true, true, true, true, true, true, true, true, true, false, false] (fun s_ => [(57, .tuple #[.agg #[.int .i64 t648, .int .i64 t649, .int .i64 t650, .int .i64 t651, .string t652, .string t653], .int .i64 t654]), (12, .pointer (some ⟨s_, 0, none⟩)), (51, .tuple #[.agg #[.int .i64 t648, .int .i64 t649, .int .i64 t650, .int .i64 t651, .string t652, .string t653], .int .i64 t654]), (58, .agg #[.int .i64 t648, .int .i64 t649, .int .i64 t650, .int .i64 t651, .string t652, .string t653]), (59, .int .i64 t654)]) (fun s_ w' => (w'.cell? ⟨gb646, 0, none⟩ = some (.int .i64 x647000_2) ∧ w'.cell? ⟨gb646, 1, none⟩ = some (.int .i64 x647001_2) ∧ w'.cell? ⟨gb646, 2, none⟩ = some (.int .i64 x647002_2) ∧ w'.cell? ⟨gb646, 3, none⟩ = some (.int .i64 x647003_2) ∧ w'.cell? ⟨gb646, 4, none⟩ = some (.string x647004_2) ∧ w'.cell? ⟨gb646, 5, none⟩ = some (.string x647005_2) ∧ w'.cell? (ad647.add ((x11_2).toNat * 6)) = some (.int .i64 ((rd_T26 x4_1 x11_2).f0.f0)) ∧ w'.cell? ⟨(ad647.add ((x11_2).toNat * 6)).block, (ad647.add ((x11_2).toNat * 6)).off + 1, none⟩ = some (.int .i64 ((rd_T26 x4_1 x11_2).f0.f1)) ∧ w'.cell? ⟨(ad647.add ((x11_2).toNat * 6)).block, (ad647.add ((x11_2).toNat * 6)).off + 2, none⟩ = some (.int .i64 ((rd_T26 x4_1 x11_2).f0.f2)) ∧ w'.cell? ⟨(ad647.add ((x11_2).toNat * 6)).block, (ad647.add ((x11_2).toNat * 6)).off + 3, none⟩ = some (.int .i64 ((rd_T26 x4_1 x11_2).f0.f3)) ∧ w'.cell? ⟨(ad647.add ((x11_2).toNat * 6)).block, (ad647.add ((x11_2).toNat * 6)).off + 4, none⟩ = some (.string ((rd_T26 x4_1 x11_2).f1)) ∧ w'.cell? ⟨(ad647.add ((x11_2).toNat * 6)).block, (ad647.add ((x11_2).toNat * 6)).off + 5, none⟩ = some (.string ((rd_T26 x4_1 x11_2).f2))) ∧ (Kd.R k26 26 w' w.heap.size (fun k_ => k_ ≠ gb631 ∧ k_ ≠ gb639 ∧ k_ ≠ gb646 ∧ k_ ≠ s_) (.slice (some ad647) x4_1.length co23) x4_1) ∧ (w'.heap[gb631]? = some (.cells #[.int .i64 t625, .int .i64 t626, .int .i64 t627, .int .i64 t628, .string t629, .string t630] 26 (0, 0))) ∧ (w'.heap[gb639]? = some (.cells #[.int .i64 t632, .int .i64 t633, .int .i64 t634, .int .i64 t635, .string t636, .string t637] 26 (0, 0))) ∧ (w'.heap[gb646]? = some (.cells #[.int .i64 x647000_2, .int .i64 x647001_2, .int .i64 x647002_2, .int .i64 x647003_2, .string x647004_2, .string x647005_2] 26 (0, 0))) ∧ (w'.heap[s_]? = some (.cells #[.int .i64 0, .int .i64 0, .int .i64 0, .int .i64 0, .string (⟨#[]⟩ : ByteArray), .string (⟨#[]⟩ : ByteArray)] 26 (0, 0))) ∧ (w.heap.size ≤ s_) ∧ (w.heap.size ≤ s_) ∧ (gb631 ≠ s_) ∧ (s_ ≠ gb631) ∧ (gb639 ≠ s_) ∧ (s_ ≠ gb639) ∧ (gb646 ≠ s_) ∧ (s_ ≠ gb646) ∧ (Below w.heap.size w w')) ?_ ?_
            rotate_left
            ·intro hCont
             refine two_ (i := 5) (j := 9) (Ni := some 57) (Nj := some 12) #[true, true, true, true, true, true, false, false, false, false, false, false] #[true, true, true, true, true, false, false, false, false, true, false, false] rfl rfl rfl rfl (two_of HT_.out (by kernel_rfl)) (by decide) (by decide) (fun K hK => ?_) (fun K hK => ?_)
             ·skip
              refine goes_ Tryd.func17 (by kernel_rfl) rfl #[.agg #[.int .i64 ((rd_T26 x4_1 x11_2).f0.f0), .int .i64 ((rd_T26 x4_1 x11_2).f0.f1), .int .i64 ((rd_T26 x4_1 x11_2).f0.f2), .int .i64 ((rd_T26 x4_1 x11_2).f0.f3), .string ((rd_T26 x4_1 x11_2).f1), .string ((rd_T26 x4_1 x11_2).f2)], .agg #[.int .i64 x647000_2, .int .i64 x647001_2, .int .i64 x647002_2, .int .i64 x647003_2, .string x647004_2, .string x647005_2]] (by rfl) rfl rfl (by (try simp only [List.map_toArray, List.map_cons, List.map_nil]); first | done | rfl | (simp only [List.length_drop, List.length_take]; rfl)) ?_
              with_reducible refine (weld_Join.calls k2 ((rd_T26 x4_1 x11_2).f0.f0) ((rd_T26 x4_1 x11_2).f0.f1) ((rd_T26 x4_1 x11_2).f0.f2) ((rd_T26 x4_1 x11_2).f0.f3) ((rd_T26 x4_1 x11_2).f1) ((rd_T26 x4_1 x11_2).f2) x647000_2 x647001_2 x647002_2 x647003_2 x647004_2 x647005_2 t648 t649 t650 t651 t652 t653 t654 _ ?side1 A36.out).mono ?_
              (case side1 => first | (with_reducible exact HG.out) | exact Glob.Globs_below HG.out (by repeat (first | (with_reducible first | exact HB.out | apply below_alloc | apply pw_below_drewN | apply below_drew1 | refine below_set ?_ GE631.out | refine below_set ?_ GE639.out | refine below_set ?_ GE646.out) | exact HB.out)))
              rintro e w39 ⟨rfl, hb⟩
              have HS6_ := (hb.cell (World.block_lt_of_cell? _ _ (hHeld.2.2.2.2.2.2.1))).trans (hHeld.2.2.2.2.2.2.1)
              have HS7_ := (hb.cell (World.block_lt_of_cell? _ _ (hHeld.2.2.2.2.2.2.2.1))).trans (hHeld.2.2.2.2.2.2.2.1)
              have HS8_ := (hb.cell (World.block_lt_of_cell? _ _ (hHeld.2.2.2.2.2.2.2.2.1))).trans (hHeld.2.2.2.2.2.2.2.2.1)
              have HS9_ := (hb.cell (World.block_lt_of_cell? _ _ (hHeld.2.2.2.2.2.2.2.2.2.1))).trans (hHeld.2.2.2.2.2.2.2.2.2.1)
              have HS10_ := (hb.cell (World.block_lt_of_cell? _ _ (hHeld.2.2.2.2.2.2.2.2.2.2.1))).trans (hHeld.2.2.2.2.2.2.2.2.2.2.1)
              have HS11_ := (hb.cell (World.block_lt_of_cell? _ _ (hHeld.2.2.2.2.2.2.2.2.2.2.2))).trans (hHeld.2.2.2.2.2.2.2.2.2.2.2)
              refine ⟨_, rfl, ?_⟩
              have n0_ := Aside0.mk (Kd.R_below (by (with_reducible repeat (first | apply Kd.R_alloc | apply Kd.R_drewN | apply Kd.R_drew)); exact HO_4.out) hb)
              have n1_ := Aside0.mk (blk_below (pl BK631.out) hb)
              have n2_ := Aside0.mk (blk_below (pl BK639.out) hb)
              have n3_ := Aside0.mk (blk_below (pl BK646.out) hb)
              have n4_ := Aside0.mk (below_step (by repeat (first | (with_reducible first | exact HB.out | apply below_alloc | apply pw_below_drewN | apply below_drew1 | refine below_set ?_ GE631.out | refine below_set ?_ GE639.out | refine below_set ?_ GE646.out) | exact HB.out)) hb)
              clear HO_4
              clear BK631
              clear BK639
              clear BK646
              clear HB
              have HO_4 := n0_
              have BK631 := n1_
              have BK639 := n2_
              have BK646 := n3_
              have HB := n4_
              clear n0_ n1_ n2_ n3_ n4_
              (try clear hb)
              (try clear hb2)
              (try clear hk)
              (try clear hi)
              refine hK.out _ _ ⟨(blk_cell BK646.out 0).trans rfl, (blk_cell BK646.out 1).trans rfl, (blk_cell BK646.out 2).trans rfl, (blk_cell BK646.out 3).trans rfl, (blk_cell BK646.out 4).trans rfl, (blk_cell BK646.out 5).trans rfl, HS6_, HS7_, HS8_, HS9_, HS10_, HS11_⟩ (fun hHeld => ?_)
              clear hK K
              refine norm_ (a' := ?_) ?_ ?_
              rotate_left
              ·show Act.put _ (some 57) _ = _
               simp only [Act.put, List.setIfInBounds_toArray, List.set_cons_zero, List.set_cons_succ, i64_w, i32_w]
               rfl
              refine pure_ (i := 6) (N := some 51) (v := ?_) (a' := ?_) #[true, true, true, true, true, true, true, false, false, false, false, false] rfl rfl (any_of HT_.out (by kernel_rfl)) (fun _ _ _ h => h) (Or.inl ⟨by rfl, ?_⟩) ?_ ?_
              rotate_left
              ·intro w'
               go_simp
               with_reducible rfl
              rotate_left
              ·simp only [Act.put, List.setIfInBounds_toArray, List.set_cons_zero, List.set_cons_succ, i64_w, i32_w]
               rfl
              refine pure_ (i := 7) (N := some 58) (v := ?_) (a' := ?_) #[true, true, true, true, true, true, true, true, false, false, false, false] rfl rfl (any_of HT_.out (by kernel_rfl)) (fun _ _ _ h => h) (Or.inl ⟨by rfl, ?_⟩) ?_ ?_
              rotate_left
              ·intro w'
               go_simp
               with_reducible rfl
              rotate_left
              ·simp only [Act.put, List.setIfInBounds_toArray, List.set_cons_zero, List.set_cons_succ, i64_w, i32_w]
               rfl
              refine pure_ (i := 8) (N := some 59) (v := ?_) (a' := ?_) #[true, true, true, true, true, true, true, true, true, false, false, false] rfl rfl (any_of HT_.out (by kernel_rfl)) (fun _ _ _ h => h) (Or.inl ⟨by rfl, ?_⟩) ?_ ?_
              rotate_left
              ·intro w'
               go_simp
               with_reducible rfl
              rotate_left
              ·simp only [Act.put, List.setIfInBounds_toArray, List.set_cons_zero, List.set_cons_succ, i64_w, i32_w]
               rfl
              refine one_ (i := 9) (N := some 12) #[true, true, true, true, true, true, true, true, true, true, false, false] rfl rfl (one_of HT_.out (by kernel_rfl)) (by decide) (fun K hK => ?_)
              refine box_step ?hg (N := 12) ?hd (cs := #[.int .i64 0, .int .i64 0, .int .i64 0, .int .i64 0, .string (⟨#[]⟩ : ByteArray), .string (⟨#[]⟩ : ByteArray)]) (t := 26) ?hr ?_; (case hd => rfl); (case hg => rfl); (case hr => first | (go_simp; done) | (go_simp; rfl))
              intro gb655 hg w40 hbox hb
              have HS6_ := (hb.cell (World.block_lt_of_cell? _ _ (hHeld.2.2.2.2.2.2.1))).trans (hHeld.2.2.2.2.2.2.1)
              have HS7_ := (hb.cell (World.block_lt_of_cell? _ _ (hHeld.2.2.2.2.2.2.2.1))).trans (hHeld.2.2.2.2.2.2.2.1)
              have HS8_ := (hb.cell (World.block_lt_of_cell? _ _ (hHeld.2.2.2.2.2.2.2.2.1))).trans (hHeld.2.2.2.2.2.2.2.2.1)
              have HS9_ := (hb.cell (World.block_lt_of_cell? _ _ (hHeld.2.2.2.2.2.2.2.2.2.1))).trans (hHeld.2.2.2.2.2.2.2.2.2.1)
              have HS10_ := (hb.cell (World.block_lt_of_cell? _ _ (hHeld.2.2.2.2.2.2.2.2.2.2.1))).trans (hHeld.2.2.2.2.2.2.2.2.2.2.1)
              have HS11_ := (hb.cell (World.block_lt_of_cell? _ _ (hHeld.2.2.2.2.2.2.2.2.2.2.2))).trans (hHeld.2.2.2.2.2.2.2.2.2.2.2)
              have n0_ := Aside0.mk (Kd.R_below (Kd.R_elderB (by (with_reducible repeat (first | apply Kd.R_alloc | apply Kd.R_drewN | apply Kd.R_drew)); exact HO_4.out) gb655 (Nat.le_of_eq hg.symm)) hb)
              have n1_ := Aside0.mk (blk_below (pl BK631.out) hb)
              have n2_ := Aside0.mk (blk_below (pl BK639.out) hb)
              have n3_ := Aside0.mk (blk_below (pl BK646.out) hb)
              have n4_ := Aside0.mk (below_step (by repeat (first | (with_reducible first | exact HB.out | apply below_alloc | apply pw_below_drewN | apply below_drew1 | refine below_set ?_ GE631.out | refine below_set ?_ GE639.out | refine below_set ?_ GE646.out) | exact HB.out)) hb)
              have n5_ := Aside0.mk (hbox)
              have n6_ := Aside0.mk ((by rw [hg]; exact (below_size (by repeat (first | (with_reducible first | exact HB.out | apply below_alloc | apply pw_below_drewN | apply below_drew1 | refine below_set ?_ GE631.out | refine below_set ?_ GE639.out | refine below_set ?_ GE646.out) | exact HB.out))) : w.heap.size ≤ gb655))
              have n7_ := Aside0.mk ((by rw [hg]; exact (below_size (by repeat (first | (with_reducible first | exact HB.out | apply below_alloc | apply pw_below_drewN | apply below_drew1 | refine below_set ?_ GE631.out | refine below_set ?_ GE639.out | refine below_set ?_ GE646.out) | exact HB.out))) : w.heap.size ≤ gb655))
              have n8_ := Aside0.mk ((by rw [hg]; exact Nat.ne_of_lt (blk_lt (pl BK631.out)) : gb631 ≠ gb655))
              have n9_ := Aside0.mk ((by rw [hg]; exact Nat.ne_of_gt (blk_lt (pl BK631.out)) : gb655 ≠ gb631))
              have n10_ := Aside0.mk ((by rw [hg]; exact Nat.ne_of_lt (blk_lt (pl BK639.out)) : gb639 ≠ gb655))
              have n11_ := Aside0.mk ((by rw [hg]; exact Nat.ne_of_gt (blk_lt (pl BK639.out)) : gb655 ≠ gb639))
              have n12_ := Aside0.mk ((by rw [hg]; exact Nat.ne_of_lt (blk_lt (pl BK646.out)) : gb646 ≠ gb655))
              have n13_ := Aside0.mk ((by rw [hg]; exact Nat.ne_of_gt (blk_lt (pl BK646.out)) : gb655 ≠ gb646))
              clear HO_4
              clear BK631
              clear BK639
              clear BK646
              clear HB
              have HO_4 := n0_
              have BK631 := n1_
              have BK639 := n2_
              have BK646 := n3_
              have HB := n4_
              have BK655 := n5_
              have GW655 := n6_
              have GE655 := n7_
              have NB631_655 := n8_
              have NB655_631 := n9_
              have NB639_655 := n10_
              have NB655_639 := n11_
              have NB646_655 := n12_
              have NB655_646 := n13_
              clear n0_ n1_ n2_ n3_ n4_ n5_ n6_ n7_ n8_ n9_ n10_ n11_ n12_ n13_
              clear hb hbox hg
              refine hK.out _ _ ⟨(blk_cell BK646.out 0).trans rfl, (blk_cell BK646.out 1).trans rfl, (blk_cell BK646.out 2).trans rfl, (blk_cell BK646.out 3).trans rfl, (blk_cell BK646.out 4).trans rfl, (blk_cell BK646.out 5).trans rfl, HS6_, HS7_, HS8_, HS9_, HS10_, HS11_⟩ (fun hHeld => ?_)
              clear hK K
              refine norm_ (a' := ?_) ?_ ?_
              rotate_left
              ·show Act.put _ (some 12) _ = _
               simp only [Act.put, List.setIfInBounds_toArray, List.set_cons_zero, List.set_cons_succ, i64_w, i32_w]
               rfl
              exact norm_ (by simp only [putAll, Act.put, List.setIfInBounds_toArray, List.set_cons_zero, List.set_cons_succ]) (hCont (gb655) _ ⟨hHeld, (by (with_reducible repeat (first | apply Kd.R_alloc | apply Kd.R_drewN | apply Kd.R_drew)); exact Kd.R_mono HO_4.out (fun _ hk => ⟨hk.1.1, ⟨hk.1.2.1, ⟨hk.1.2.2, hk.2⟩⟩⟩)), (pl BK631.out), (pl BK639.out), (pl BK646.out), (pl BK655.out), GW655.out, GE655.out, NB631_655.out, NB655_631.out, NB639_655.out, NB655_639.out, NB646_655.out, NB655_646.out, (by repeat (first | (with_reducible first | exact HB.out | apply below_alloc | apply pw_below_drewN | apply below_drew1 | refine below_set ?_ GE631.out | refine below_set ?_ GE639.out | refine below_set ?_ GE646.out | refine below_set ?_ GE655.out) | exact HB.out))⟩)
             ·skip
              refine box_step ?hg (N := 12) ?hd (cs := #[.int .i64 0, .int .i64 0, .int .i64 0, .int .i64 0, .string (⟨#[]⟩ : ByteArray), .string (⟨#[]⟩ : ByteArray)]) (t := 26) ?hr ?_; (case hd => rfl); (case hg => rfl); (case hr => first | (go_simp; done) | (go_simp; rfl))
              intro gb655 hg w39 hbox hb
              have HS6_ := (hb.cell (World.block_lt_of_cell? _ _ (hHeld.2.2.2.2.2.2.1))).trans (hHeld.2.2.2.2.2.2.1)
              have HS7_ := (hb.cell (World.block_lt_of_cell? _ _ (hHeld.2.2.2.2.2.2.2.1))).trans (hHeld.2.2.2.2.2.2.2.1)
              have HS8_ := (hb.cell (World.block_lt_of_cell? _ _ (hHeld.2.2.2.2.2.2.2.2.1))).trans (hHeld.2.2.2.2.2.2.2.2.1)
              have HS9_ := (hb.cell (World.block_lt_of_cell? _ _ (hHeld.2.2.2.2.2.2.2.2.2.1))).trans (hHeld.2.2.2.2.2.2.2.2.2.1)
              have HS10_ := (hb.cell (World.block_lt_of_cell? _ _ (hHeld.2.2.2.2.2.2.2.2.2.2.1))).trans (hHeld.2.2.2.2.2.2.2.2.2.2.1)
              have HS11_ := (hb.cell (World.block_lt_of_cell? _ _ (hHeld.2.2.2.2.2.2.2.2.2.2.2))).trans (hHeld.2.2.2.2.2.2.2.2.2.2.2)
              have n0_ := Aside0.mk (Kd.R_below (Kd.R_elderB (by (with_reducible repeat (first | apply Kd.R_alloc | apply Kd.R_drewN | apply Kd.R_drew)); exact HO_4.out) gb655 (Nat.le_of_eq hg.symm)) hb)
              have n1_ := Aside0.mk (blk_below (pl BK631.out) hb)
              have n2_ := Aside0.mk (blk_below (pl BK639.out) hb)
              have n3_ := Aside0.mk (blk_below (pl BK646.out) hb)
              have n4_ := Aside0.mk (below_step (by repeat (first | (with_reducible first | exact HB.out | apply below_alloc | apply pw_below_drewN | apply below_drew1 | refine below_set ?_ GE631.out | refine below_set ?_ GE639.out | refine below_set ?_ GE646.out) | exact HB.out)) hb)
              have n5_ := Aside0.mk (hbox)
              have n6_ := Aside0.mk ((by rw [hg]; exact (below_size (by repeat (first | (with_reducible first | exact HB.out | apply below_alloc | apply pw_below_drewN | apply below_drew1 | refine below_set ?_ GE631.out | refine below_set ?_ GE639.out | refine below_set ?_ GE646.out) | exact HB.out))) : w.heap.size ≤ gb655))
              have n7_ := Aside0.mk ((by rw [hg]; exact (below_size (by repeat (first | (with_reducible first | exact HB.out | apply below_alloc | apply pw_below_drewN | apply below_drew1 | refine below_set ?_ GE631.out | refine below_set ?_ GE639.out | refine below_set ?_ GE646.out) | exact HB.out))) : w.heap.size ≤ gb655))
              have n8_ := Aside0.mk ((by rw [hg]; exact Nat.ne_of_lt (blk_lt (pl BK631.out)) : gb631 ≠ gb655))
              have n9_ := Aside0.mk ((by rw [hg]; exact Nat.ne_of_gt (blk_lt (pl BK631.out)) : gb655 ≠ gb631))
              have n10_ := Aside0.mk ((by rw [hg]; exact Nat.ne_of_lt (blk_lt (pl BK639.out)) : gb639 ≠ gb655))
              have n11_ := Aside0.mk ((by rw [hg]; exact Nat.ne_of_gt (blk_lt (pl BK639.out)) : gb655 ≠ gb639))
              have n12_ := Aside0.mk ((by rw [hg]; exact Nat.ne_of_lt (blk_lt (pl BK646.out)) : gb646 ≠ gb655))
              have n13_ := Aside0.mk ((by rw [hg]; exact Nat.ne_of_gt (blk_lt (pl BK646.out)) : gb655 ≠ gb646))
              clear HO_4
              clear BK631
              clear BK639
              clear BK646
              clear HB
              have HO_4 := n0_
              have BK631 := n1_
              have BK639 := n2_
              have BK646 := n3_
              have HB := n4_
              have BK655 := n5_
              have GW655 := n6_
              have GE655 := n7_
              have NB631_655 := n8_
              have NB655_631 := n9_
              have NB639_655 := n10_
              have NB655_639 := n11_
              have NB646_655 := n12_
              have NB655_646 := n13_
              clear n0_ n1_ n2_ n3_ n4_ n5_ n6_ n7_ n8_ n9_ n10_ n11_ n12_ n13_
              clear hb hbox hg
              refine hK.out _ _ ⟨(blk_cell BK646.out 0).trans rfl, (blk_cell BK646.out 1).trans rfl, (blk_cell BK646.out 2).trans rfl, (blk_cell BK646.out 3).trans rfl, (blk_cell BK646.out 4).trans rfl, (blk_cell BK646.out 5).trans rfl, HS6_, HS7_, HS8_, HS9_, HS10_, HS11_⟩ (fun hHeld => ?_)
              clear hK K
              refine norm_ (a' := ?_) ?_ ?_
              rotate_left
              ·show Act.put _ (some 12) _ = _
               simp only [Act.put, List.setIfInBounds_toArray, List.set_cons_zero, List.set_cons_succ, i64_w, i32_w]
               rfl
              refine one_ (i := 5) (N := some 57) #[true, true, true, true, true, true, false, false, false, true, false, false] rfl rfl (one_of HT_.out (by kernel_rfl)) (by decide) (fun K hK => ?_)
              refine goes_ Tryd.func17 (by kernel_rfl) rfl #[.agg #[.int .i64 ((rd_T26 x4_1 x11_2).f0.f0), .int .i64 ((rd_T26 x4_1 x11_2).f0.f1), .int .i64 ((rd_T26 x4_1 x11_2).f0.f2), .int .i64 ((rd_T26 x4_1 x11_2).f0.f3), .string ((rd_T26 x4_1 x11_2).f1), .string ((rd_T26 x4_1 x11_2).f2)], .agg #[.int .i64 x647000_2, .int .i64 x647001_2, .int .i64 x647002_2, .int .i64 x647003_2, .string x647004_2, .string x647005_2]] (by rfl) rfl rfl (by (try simp only [List.map_toArray, List.map_cons, List.map_nil]); first | done | rfl | (simp only [List.length_drop, List.length_take]; rfl)) ?_
              with_reducible refine (weld_Join.calls k2 ((rd_T26 x4_1 x11_2).f0.f0) ((rd_T26 x4_1 x11_2).f0.f1) ((rd_T26 x4_1 x11_2).f0.f2) ((rd_T26 x4_1 x11_2).f0.f3) ((rd_T26 x4_1 x11_2).f1) ((rd_T26 x4_1 x11_2).f2) x647000_2 x647001_2 x647002_2 x647003_2 x647004_2 x647005_2 t648 t649 t650 t651 t652 t653 t654 _ ?side1 A36.out).mono ?_
              (case side1 => first | (with_reducible exact HG.out) | exact Glob.Globs_below HG.out (by repeat (first | (with_reducible first | exact HB.out | apply below_alloc | apply pw_below_drewN | apply below_drew1 | refine below_set ?_ GE631.out | refine below_set ?_ GE639.out | refine below_set ?_ GE646.out | refine below_set ?_ GE655.out) | exact HB.out)))
              rintro e w40 ⟨rfl, hb⟩
              have HS6_ := (hb.cell (World.block_lt_of_cell? _ _ (hHeld.2.2.2.2.2.2.1))).trans (hHeld.2.2.2.2.2.2.1)
              have HS7_ := (hb.cell (World.block_lt_of_cell? _ _ (hHeld.2.2.2.2.2.2.2.1))).trans (hHeld.2.2.2.2.2.2.2.1)
              have HS8_ := (hb.cell (World.block_lt_of_cell? _ _ (hHeld.2.2.2.2.2.2.2.2.1))).trans (hHeld.2.2.2.2.2.2.2.2.1)
              have HS9_ := (hb.cell (World.block_lt_of_cell? _ _ (hHeld.2.2.2.2.2.2.2.2.2.1))).trans (hHeld.2.2.2.2.2.2.2.2.2.1)
              have HS10_ := (hb.cell (World.block_lt_of_cell? _ _ (hHeld.2.2.2.2.2.2.2.2.2.2.1))).trans (hHeld.2.2.2.2.2.2.2.2.2.2.1)
              have HS11_ := (hb.cell (World.block_lt_of_cell? _ _ (hHeld.2.2.2.2.2.2.2.2.2.2.2))).trans (hHeld.2.2.2.2.2.2.2.2.2.2.2)
              refine ⟨_, rfl, ?_⟩
              have n0_ := Aside0.mk (Kd.R_below (by (with_reducible repeat (first | apply Kd.R_alloc | apply Kd.R_drewN | apply Kd.R_drew)); exact HO_4.out) hb)
              have n1_ := Aside0.mk (blk_below (pl BK631.out) hb)
              have n2_ := Aside0.mk (blk_below (pl BK639.out) hb)
              have n3_ := Aside0.mk (blk_below (pl BK646.out) hb)
              have n4_ := Aside0.mk (blk_below (pl BK655.out) hb)
              have n5_ := Aside0.mk (below_step (by repeat (first | (with_reducible first | exact HB.out | apply below_alloc | apply pw_below_drewN | apply below_drew1 | refine below_set ?_ GE631.out | refine below_set ?_ GE639.out | refine below_set ?_ GE646.out | refine below_set ?_ GE655.out) | exact HB.out)) hb)
              clear HO_4
              clear BK631
              clear BK639
              clear BK646
              clear BK655
              clear HB
              have HO_4 := n0_
              have BK631 := n1_
              have BK639 := n2_
              have BK646 := n3_
              have BK655 := n4_
              have HB := n5_
              clear n0_ n1_ n2_ n3_ n4_ n5_
              (try clear hb)
              (try clear hb2)
              (try clear hk)
              (try clear hi)
              refine hK.out _ _ ⟨(blk_cell BK646.out 0).trans rfl, (blk_cell BK646.out 1).trans rfl, (blk_cell BK646.out 2).trans rfl, (blk_cell BK646.out 3).trans rfl, (blk_cell BK646.out 4).trans rfl, (blk_cell BK646.out 5).trans rfl, HS6_, HS7_, HS8_, HS9_, HS10_, HS11_⟩ (fun hHeld => ?_)
              clear hK K
              refine norm_ (a' := ?_) ?_ ?_
              rotate_left
              ·show Act.put _ (some 57) _ = _
               simp only [Act.put, List.setIfInBounds_toArray, List.set_cons_zero, List.set_cons_succ, i64_w, i32_w]
               rfl
              refine pure_ (i := 6) (N := some 51) (v := ?_) (a' := ?_) #[true, true, true, true, true, true, true, false, false, true, false, false] rfl rfl (any_of HT_.out (by kernel_rfl)) (fun _ _ _ h => h) (Or.inl ⟨by rfl, ?_⟩) ?_ ?_
              rotate_left
              ·intro w'
               go_simp
               with_reducible rfl
              rotate_left
              ·simp only [Act.put, List.setIfInBounds_toArray, List.set_cons_zero, List.set_cons_succ, i64_w, i32_w]
               rfl
              refine pure_ (i := 7) (N := some 58) (v := ?_) (a' := ?_) #[true, true, true, true, true, true, true, true, false, true, false, false] rfl rfl (any_of HT_.out (by kernel_rfl)) (fun _ _ _ h => h) (Or.inl ⟨by rfl, ?_⟩) ?_ ?_
              rotate_left
              ·intro w'
               go_simp
               with_reducible rfl
              rotate_left
              ·simp only [Act.put, List.setIfInBounds_toArray, List.set_cons_zero, List.set_cons_succ, i64_w, i32_w]
               rfl
              refine pure_ (i := 8) (N := some 59) (v := ?_) (a' := ?_) #[true, true, true, true, true, true, true, true, true, true, false, false] rfl rfl (any_of HT_.out (by kernel_rfl)) (fun _ _ _ h => h) (Or.inl ⟨by rfl, ?_⟩) ?_ ?_
              rotate_left
              ·intro w'
               go_simp
               with_reducible rfl
              rotate_left
              ·simp only [Act.put, List.setIfInBounds_toArray, List.set_cons_zero, List.set_cons_succ, i64_w, i32_w]
               rfl
              exact norm_ (by simp only [putAll, Act.put, List.setIfInBounds_toArray, List.set_cons_zero, List.set_cons_succ]) (hCont (gb655) _ ⟨hHeld, (by (with_reducible repeat (first | apply Kd.R_alloc | apply Kd.R_drewN | apply Kd.R_drew)); exact Kd.R_mono HO_4.out (fun _ hk => ⟨hk.1.1, ⟨hk.1.2.1, ⟨hk.1.2.2, hk.2⟩⟩⟩)), (pl BK631.out), (pl BK639.out), (pl BK646.out), (pl BK655.out), GW655.out, GE655.out, NB631_655.out, NB655_631.out, NB639_655.out, NB655_639.out, NB646_655.out, NB655_646.out, (by repeat (first | (with_reducible first | exact HB.out | apply below_alloc | apply pw_below_drewN | apply below_drew1 | refine below_set ?_ GE631.out | refine below_set ?_ GE639.out | refine below_set ?_ GE646.out | refine below_set ?_ GE655.out) | exact HB.out))⟩)
            rintro gb655 w41 ⟨hS_, h0_, h1_, h2_, h3_, h4_, h5_, h6_, h7_, h8_, h9_, h10_, h11_, h12_, h13_⟩
            have n0_ : Aside0 (Kd.R k26 26 w41 w.heap.size (fun k_ => k_ ≠ gb631 ∧ k_ ≠ gb639 ∧ k_ ≠ gb646 ∧ k_ ≠ gb655) (.slice (some ad647) x4_1.length co23) x4_1) := ⟨h0_⟩
            have n1_ : Aside0 (w41.heap[gb631]? = some (.cells #[.int .i64 t625, .int .i64 t626, .int .i64 t627, .int .i64 t628, .string t629, .string t630] 26 (0, 0))) := ⟨h1_⟩
            have n2_ : Aside0 (w41.heap[gb639]? = some (.cells #[.int .i64 t632, .int .i64 t633, .int .i64 t634, .int .i64 t635, .string t636, .string t637] 26 (0, 0))) := ⟨h2_⟩
            have n3_ : Aside0 (w41.heap[gb646]? = some (.cells #[.int .i64 x647000_2, .int .i64 x647001_2, .int .i64 x647002_2, .int .i64 x647003_2, .string x647004_2, .string x647005_2] 26 (0, 0))) := ⟨h3_⟩
            have n4_ : Aside0 (w41.heap[gb655]? = some (.cells #[.int .i64 0, .int .i64 0, .int .i64 0, .int .i64 0, .string (⟨#[]⟩ : ByteArray), .string (⟨#[]⟩ : ByteArray)] 26 (0, 0))) := ⟨h4_⟩
            have n5_ : Aside0 (w.heap.size ≤ gb655) := ⟨h5_⟩
            have n6_ : Aside0 (w.heap.size ≤ gb655) := ⟨h6_⟩
            have n7_ : Aside0 (gb631 ≠ gb655) := ⟨h7_⟩
            have n8_ : Aside0 (gb655 ≠ gb631) := ⟨h8_⟩
            have n9_ : Aside0 (gb639 ≠ gb655) := ⟨h9_⟩
            have n10_ : Aside0 (gb655 ≠ gb639) := ⟨h10_⟩
            have n11_ : Aside0 (gb646 ≠ gb655) := ⟨h11_⟩
            have n12_ : Aside0 (gb655 ≠ gb646) := ⟨h12_⟩
            have n13_ : Aside0 (Below w.heap.size w w41) := ⟨h13_⟩
            clear HO_4
            clear BK631
            clear BK639
            clear BK646
            clear HB
            clear h0_ h1_ h2_ h3_ h4_ h5_ h6_ h7_ h8_ h9_ h10_ h11_ h12_ h13_
            have HO_4 := n0_
            have BK631 := n1_
            have BK639 := n2_
            have BK646 := n3_
            have BK655 := n4_
            have GW655 := n5_
            have GE655 := n6_
            have NB631_655 := n7_
            have NB655_631 := n8_
            have NB639_655 := n9_
            have NB655_639 := n10_
            have NB646_655 := n11_
            have NB655_646 := n12_
            have HB := n13_
            clear n0_ n1_ n2_ n3_ n4_ n5_ n6_ n7_ n8_ n9_ n10_ n11_ n12_ n13_
            have hHeld : w41.cell? ⟨gb646, 0, none⟩ = some (.int .i64 x647000_2) ∧ w41.cell? ⟨gb646, 1, none⟩ = some (.int .i64 x647001_2) ∧ w41.cell? ⟨gb646, 2, none⟩ = some (.int .i64 x647002_2) ∧ w41.cell? ⟨gb646, 3, none⟩ = some (.int .i64 x647003_2) ∧ w41.cell? ⟨gb646, 4, none⟩ = some (.string x647004_2) ∧ w41.cell? ⟨gb646, 5, none⟩ = some (.string x647005_2) ∧ w41.cell? (ad647.add ((x11_2).toNat * 6)) = some (.int .i64 ((rd_T26 x4_1 x11_2).f0.f0)) ∧ w41.cell? ⟨(ad647.add ((x11_2).toNat * 6)).block, (ad647.add ((x11_2).toNat * 6)).off + 1, none⟩ = some (.int .i64 ((rd_T26 x4_1 x11_2).f0.f1)) ∧ w41.cell? ⟨(ad647.add ((x11_2).toNat * 6)).block, (ad647.add ((x11_2).toNat * 6)).off + 2, none⟩ = some (.int .i64 ((rd_T26 x4_1 x11_2).f0.f2)) ∧ w41.cell? ⟨(ad647.add ((x11_2).toNat * 6)).block, (ad647.add ((x11_2).toNat * 6)).off + 3, none⟩ = some (.int .i64 ((rd_T26 x4_1 x11_2).f0.f3)) ∧ w41.cell? ⟨(ad647.add ((x11_2).toNat * 6)).block, (ad647.add ((x11_2).toNat * 6)).off + 4, none⟩ = some (.string ((rd_T26 x4_1 x11_2).f1)) ∧ w41.cell? ⟨(ad647.add ((x11_2).toNat * 6)).block, (ad647.add ((x11_2).toNat * 6)).off + 5, none⟩ = some (.string ((rd_T26 x4_1 x11_2).f2)) := hS_
            refine norm_ (a' := ?_) ?_ ?_
            rotate_left
            ·simp only [putAll, Act.put, List.setIfInBounds_toArray, List.set_cons_zero, List.set_cons_succ]
             rfl
            refine one_ (i := 10) (N := none) #[true, true, true, true, true, true, true, true, true, true, true, false] rfl rfl (one_of HT_.out (by kernel_rfl)) (by decide) (fun K hK => ?_)
            have hs42 : w41.cell? ⟨gb655, 0, none⟩ = some (.int .i64 0) := (blk_cell BK655.out 0).trans rfl
            have hfs42 := blk_frozen BK655.out 0
            have hns42_0 := NB631_655.out
            have hns42_1 := NB639_655.out
            have hns42_2 := NB646_655.out
            have hms42_0 := NB655_631.out
            have hms42_1 := NB655_639.out
            have hms42_2 := NB655_646.out
            have hs43 : w41.cell? ⟨gb655, 1, none⟩ = some (.int .i64 0) := (blk_cell BK655.out 1).trans rfl
            have hfs43 := blk_frozen BK655.out 1
            have hns43_0 := NB631_655.out
            have hns43_1 := NB639_655.out
            have hns43_2 := NB646_655.out
            have hms43_0 := NB655_631.out
            have hms43_1 := NB655_639.out
            have hms43_2 := NB655_646.out
            have hs44 : w41.cell? ⟨gb655, 2, none⟩ = some (.int .i64 0) := (blk_cell BK655.out 2).trans rfl
            have hfs44 := blk_frozen BK655.out 2
            have hns44_0 := NB631_655.out
            have hns44_1 := NB639_655.out
            have hns44_2 := NB646_655.out
            have hms44_0 := NB655_631.out
            have hms44_1 := NB655_639.out
            have hms44_2 := NB655_646.out
            have hs45 : w41.cell? ⟨gb655, 3, none⟩ = some (.int .i64 0) := (blk_cell BK655.out 3).trans rfl
            have hfs45 := blk_frozen BK655.out 3
            have hns45_0 := NB631_655.out
            have hns45_1 := NB639_655.out
            have hns45_2 := NB646_655.out
            have hms45_0 := NB655_631.out
            have hms45_1 := NB655_639.out
            have hms45_2 := NB655_646.out
            have hs46 : w41.cell? ⟨gb655, 4, none⟩ = some (.string (⟨#[]⟩ : ByteArray)) := (blk_cell BK655.out 4).trans rfl
            have hfs46 := blk_frozen BK655.out 4
            have hns46_0 := NB631_655.out
            have hns46_1 := NB639_655.out
            have hns46_2 := NB646_655.out
            have hms46_0 := NB655_631.out
            have hms46_1 := NB655_639.out
            have hms46_2 := NB655_646.out
            have hs47 : w41.cell? ⟨gb655, 5, none⟩ = some (.string (⟨#[]⟩ : ByteArray)) := (blk_cell BK655.out 5).trans rfl
            have hfs47 := blk_frozen BK655.out 5
            have hns47_0 := NB631_655.out
            have hns47_1 := NB639_655.out
            have hns47_2 := NB646_655.out
            have hms47_0 := NB655_631.out
            have hms47_1 := NB655_639.out
            have hms47_2 := NB655_646.out
            refine skip_ (w1 := ?_) (by rfl) rfl ?_ ?_
            rotate_left
            ·go_simp
             rfl
            refine hK.out _ _ ⟨((cell_far (p := ⟨gb655, _, none⟩) NB646_655.out _).trans (((cell_far (p := ⟨gb655, _, none⟩) NB646_655.out _).trans (((cell_far (p := ⟨gb655, _, none⟩) NB646_655.out _).trans (((cell_far (p := ⟨gb655, _, none⟩) NB646_655.out _).trans (((cell_far (p := ⟨gb655, _, none⟩) NB646_655.out _).trans (((cell_far (p := ⟨gb655, _, none⟩) NB646_655.out _).trans (hHeld.1)))))))))))), ((cell_far (p := ⟨gb655, _, none⟩) NB646_655.out _).trans (((cell_far (p := ⟨gb655, _, none⟩) NB646_655.out _).trans (((cell_far (p := ⟨gb655, _, none⟩) NB646_655.out _).trans (((cell_far (p := ⟨gb655, _, none⟩) NB646_655.out _).trans (((cell_far (p := ⟨gb655, _, none⟩) NB646_655.out _).trans (((cell_far (p := ⟨gb655, _, none⟩) NB646_655.out _).trans (hHeld.2.1)))))))))))), ((cell_far (p := ⟨gb655, _, none⟩) NB646_655.out _).trans (((cell_far (p := ⟨gb655, _, none⟩) NB646_655.out _).trans (((cell_far (p := ⟨gb655, _, none⟩) NB646_655.out _).trans (((cell_far (p := ⟨gb655, _, none⟩) NB646_655.out _).trans (((cell_far (p := ⟨gb655, _, none⟩) NB646_655.out _).trans (((cell_far (p := ⟨gb655, _, none⟩) NB646_655.out _).trans (hHeld.2.2.1)))))))))))), ((cell_far (p := ⟨gb655, _, none⟩) NB646_655.out _).trans (((cell_far (p := ⟨gb655, _, none⟩) NB646_655.out _).trans (((cell_far (p := ⟨gb655, _, none⟩) NB646_655.out _).trans (((cell_far (p := ⟨gb655, _, none⟩) NB646_655.out _).trans (((cell_far (p := ⟨gb655, _, none⟩) NB646_655.out _).trans (((cell_far (p := ⟨gb655, _, none⟩) NB646_655.out _).trans (hHeld.2.2.2.1)))))))))))), ((cell_far (p := ⟨gb655, _, none⟩) NB646_655.out _).trans (((cell_far (p := ⟨gb655, _, none⟩) NB646_655.out _).trans (((cell_far (p := ⟨gb655, _, none⟩) NB646_655.out _).trans (((cell_far (p := ⟨gb655, _, none⟩) NB646_655.out _).trans (((cell_far (p := ⟨gb655, _, none⟩) NB646_655.out _).trans (((cell_far (p := ⟨gb655, _, none⟩) NB646_655.out _).trans (hHeld.2.2.2.2.1)))))))))))), ((cell_far (p := ⟨gb655, _, none⟩) NB646_655.out _).trans (((cell_far (p := ⟨gb655, _, none⟩) NB646_655.out _).trans (((cell_far (p := ⟨gb655, _, none⟩) NB646_655.out _).trans (((cell_far (p := ⟨gb655, _, none⟩) NB646_655.out _).trans (((cell_far (p := ⟨gb655, _, none⟩) NB646_655.out _).trans (((cell_far (p := ⟨gb655, _, none⟩) NB646_655.out _).trans (hHeld.2.2.2.2.2.1)))))))))))), ((cell_far (p := ⟨gb655, _, none⟩) (by first | exact Kd.own_blk (Kd.R_away HO_4.out (fun _ hk => hk.2.2.2)) | (rw [add_block]; exact Kd.own_blk (Kd.R_away HO_4.out (fun _ hk => hk.2.2.2))) | (show (Addr.add _ _).block ≠ _; rw [add_block]; exact Kd.own_blk (Kd.R_away HO_4.out (fun _ hk => hk.2.2.2))) | (dsimp only; exact Kd.own_blk (Kd.R_away HO_4.out (fun _ hk => hk.2.2.2)))) _).trans (((cell_far (p := ⟨gb655, _, none⟩) (by first | exact Kd.own_blk (Kd.R_away HO_4.out (fun _ hk => hk.2.2.2)) | (rw [add_block]; exact Kd.own_blk (Kd.R_away HO_4.out (fun _ hk => hk.2.2.2))) | (show (Addr.add _ _).block ≠ _; rw [add_block]; exact Kd.own_blk (Kd.R_away HO_4.out (fun _ hk => hk.2.2.2))) | (dsimp only; exact Kd.own_blk (Kd.R_away HO_4.out (fun _ hk => hk.2.2.2)))) _).trans (((cell_far (p := ⟨gb655, _, none⟩) (by first | exact Kd.own_blk (Kd.R_away HO_4.out (fun _ hk => hk.2.2.2)) | (rw [add_block]; exact Kd.own_blk (Kd.R_away HO_4.out (fun _ hk => hk.2.2.2))) | (show (Addr.add _ _).block ≠ _; rw [add_block]; exact Kd.own_blk (Kd.R_away HO_4.out (fun _ hk => hk.2.2.2))) | (dsimp only; exact Kd.own_blk (Kd.R_away HO_4.out (fun _ hk => hk.2.2.2)))) _).trans (((cell_far (p := ⟨gb655, _, none⟩) (by first | exact Kd.own_blk (Kd.R_away HO_4.out (fun _ hk => hk.2.2.2)) | (rw [add_block]; exact Kd.own_blk (Kd.R_away HO_4.out (fun _ hk => hk.2.2.2))) | (show (Addr.add _ _).block ≠ _; rw [add_block]; exact Kd.own_blk (Kd.R_away HO_4.out (fun _ hk => hk.2.2.2))) | (dsimp only; exact Kd.own_blk (Kd.R_away HO_4.out (fun _ hk => hk.2.2.2)))) _).trans (((cell_far (p := ⟨gb655, _, none⟩) (by first | exact Kd.own_blk (Kd.R_away HO_4.out (fun _ hk => hk.2.2.2)) | (rw [add_block]; exact Kd.own_blk (Kd.R_away HO_4.out (fun _ hk => hk.2.2.2))) | (show (Addr.add _ _).block ≠ _; rw [add_block]; exact Kd.own_blk (Kd.R_away HO_4.out (fun _ hk => hk.2.2.2))) | (dsimp only; exact Kd.own_blk (Kd.R_away HO_4.out (fun _ hk => hk.2.2.2)))) _).trans (((cell_far (p := ⟨gb655, _, none⟩) (by first | exact Kd.own_blk (Kd.R_away HO_4.out (fun _ hk => hk.2.2.2)) | (rw [add_block]; exact Kd.own_blk (Kd.R_away HO_4.out (fun _ hk => hk.2.2.2))) | (show (Addr.add _ _).block ≠ _; rw [add_block]; exact Kd.own_blk (Kd.R_away HO_4.out (fun _ hk => hk.2.2.2))) | (dsimp only; exact Kd.own_blk (Kd.R_away HO_4.out (fun _ hk => hk.2.2.2)))) _).trans (hHeld.2.2.2.2.2.2.1)))))))))))), ((cell_far (p := ⟨gb655, _, none⟩) (by first | exact Kd.own_blk (Kd.R_away HO_4.out (fun _ hk => hk.2.2.2)) | (rw [add_block]; exact Kd.own_blk (Kd.R_away HO_4.out (fun _ hk => hk.2.2.2))) | (show (Addr.add _ _).block ≠ _; rw [add_block]; exact Kd.own_blk (Kd.R_away HO_4.out (fun _ hk => hk.2.2.2))) | (dsimp only; exact Kd.own_blk (Kd.R_away HO_4.out (fun _ hk => hk.2.2.2)))) _).trans (((cell_far (p := ⟨gb655, _, none⟩) (by first | exact Kd.own_blk (Kd.R_away HO_4.out (fun _ hk => hk.2.2.2)) | (rw [add_block]; exact Kd.own_blk (Kd.R_away HO_4.out (fun _ hk => hk.2.2.2))) | (show (Addr.add _ _).block ≠ _; rw [add_block]; exact Kd.own_blk (Kd.R_away HO_4.out (fun _ hk => hk.2.2.2))) | (dsimp only; exact Kd.own_blk (Kd.R_away HO_4.out (fun _ hk => hk.2.2.2)))) _).trans (((cell_far (p := ⟨gb655, _, none⟩) (by first | exact Kd.own_blk (Kd.R_away HO_4.out (fun _ hk => hk.2.2.2)) | (rw [add_block]; exact Kd.own_blk (Kd.R_away HO_4.out (fun _ hk => hk.2.2.2))) | (show (Addr.add _ _).block ≠ _; rw [add_block]; exact Kd.own_blk (Kd.R_away HO_4.out (fun _ hk => hk.2.2.2))) | (dsimp only; exact Kd.own_blk (Kd.R_away HO_4.out (fun _ hk => hk.2.2.2)))) _).trans (((cell_far (p := ⟨gb655, _, none⟩) (by first | exact Kd.own_blk (Kd.R_away HO_4.out (fun _ hk => hk.2.2.2)) | (rw [add_block]; exact Kd.own_blk (Kd.R_away HO_4.out (fun _ hk => hk.2.2.2))) | (show (Addr.add _ _).block ≠ _; rw [add_block]; exact Kd.own_blk (Kd.R_away HO_4.out (fun _ hk => hk.2.2.2))) | (dsimp only; exact Kd.own_blk (Kd.R_away HO_4.out (fun _ hk => hk.2.2.2)))) _).trans (((cell_far (p := ⟨gb655, _, none⟩) (by first | exact Kd.own_blk (Kd.R_away HO_4.out (fun _ hk => hk.2.2.2)) | (rw [add_block]; exact Kd.own_blk (Kd.R_away HO_4.out (fun _ hk => hk.2.2.2))) | (show (Addr.add _ _).block ≠ _; rw [add_block]; exact Kd.own_blk (Kd.R_away HO_4.out (fun _ hk => hk.2.2.2))) | (dsimp only; exact Kd.own_blk (Kd.R_away HO_4.out (fun _ hk => hk.2.2.2)))) _).trans (((cell_far (p := ⟨gb655, _, none⟩) (by first | exact Kd.own_blk (Kd.R_away HO_4.out (fun _ hk => hk.2.2.2)) | (rw [add_block]; exact Kd.own_blk (Kd.R_away HO_4.out (fun _ hk => hk.2.2.2))) | (show (Addr.add _ _).block ≠ _; rw [add_block]; exact Kd.own_blk (Kd.R_away HO_4.out (fun _ hk => hk.2.2.2))) | (dsimp only; exact Kd.own_blk (Kd.R_away HO_4.out (fun _ hk => hk.2.2.2)))) _).trans (hHeld.2.2.2.2.2.2.2.1)))))))))))), ((cell_far (p := ⟨gb655, _, none⟩) (by first | exact Kd.own_blk (Kd.R_away HO_4.out (fun _ hk => hk.2.2.2)) | (rw [add_block]; exact Kd.own_blk (Kd.R_away HO_4.out (fun _ hk => hk.2.2.2))) | (show (Addr.add _ _).block ≠ _; rw [add_block]; exact Kd.own_blk (Kd.R_away HO_4.out (fun _ hk => hk.2.2.2))) | (dsimp only; exact Kd.own_blk (Kd.R_away HO_4.out (fun _ hk => hk.2.2.2)))) _).trans (((cell_far (p := ⟨gb655, _, none⟩) (by first | exact Kd.own_blk (Kd.R_away HO_4.out (fun _ hk => hk.2.2.2)) | (rw [add_block]; exact Kd.own_blk (Kd.R_away HO_4.out (fun _ hk => hk.2.2.2))) | (show (Addr.add _ _).block ≠ _; rw [add_block]; exact Kd.own_blk (Kd.R_away HO_4.out (fun _ hk => hk.2.2.2))) | (dsimp only; exact Kd.own_blk (Kd.R_away HO_4.out (fun _ hk => hk.2.2.2)))) _).trans (((cell_far (p := ⟨gb655, _, none⟩) (by first | exact Kd.own_blk (Kd.R_away HO_4.out (fun _ hk => hk.2.2.2)) | (rw [add_block]; exact Kd.own_blk (Kd.R_away HO_4.out (fun _ hk => hk.2.2.2))) | (show (Addr.add _ _).block ≠ _; rw [add_block]; exact Kd.own_blk (Kd.R_away HO_4.out (fun _ hk => hk.2.2.2))) | (dsimp only; exact Kd.own_blk (Kd.R_away HO_4.out (fun _ hk => hk.2.2.2)))) _).trans (((cell_far (p := ⟨gb655, _, none⟩) (by first | exact Kd.own_blk (Kd.R_away HO_4.out (fun _ hk => hk.2.2.2)) | (rw [add_block]; exact Kd.own_blk (Kd.R_away HO_4.out (fun _ hk => hk.2.2.2))) | (show (Addr.add _ _).block ≠ _; rw [add_block]; exact Kd.own_blk (Kd.R_away HO_4.out (fun _ hk => hk.2.2.2))) | (dsimp only; exact Kd.own_blk (Kd.R_away HO_4.out (fun _ hk => hk.2.2.2)))) _).trans (((cell_far (p := ⟨gb655, _, none⟩) (by first | exact Kd.own_blk (Kd.R_away HO_4.out (fun _ hk => hk.2.2.2)) | (rw [add_block]; exact Kd.own_blk (Kd.R_away HO_4.out (fun _ hk => hk.2.2.2))) | (show (Addr.add _ _).block ≠ _; rw [add_block]; exact Kd.own_blk (Kd.R_away HO_4.out (fun _ hk => hk.2.2.2))) | (dsimp only; exact Kd.own_blk (Kd.R_away HO_4.out (fun _ hk => hk.2.2.2)))) _).trans (((cell_far (p := ⟨gb655, _, none⟩) (by first | exact Kd.own_blk (Kd.R_away HO_4.out (fun _ hk => hk.2.2.2)) | (rw [add_block]; exact Kd.own_blk (Kd.R_away HO_4.out (fun _ hk => hk.2.2.2))) | (show (Addr.add _ _).block ≠ _; rw [add_block]; exact Kd.own_blk (Kd.R_away HO_4.out (fun _ hk => hk.2.2.2))) | (dsimp only; exact Kd.own_blk (Kd.R_away HO_4.out (fun _ hk => hk.2.2.2)))) _).trans (hHeld.2.2.2.2.2.2.2.2.1)))))))))))), ((cell_far (p := ⟨gb655, _, none⟩) (by first | exact Kd.own_blk (Kd.R_away HO_4.out (fun _ hk => hk.2.2.2)) | (rw [add_block]; exact Kd.own_blk (Kd.R_away HO_4.out (fun _ hk => hk.2.2.2))) | (show (Addr.add _ _).block ≠ _; rw [add_block]; exact Kd.own_blk (Kd.R_away HO_4.out (fun _ hk => hk.2.2.2))) | (dsimp only; exact Kd.own_blk (Kd.R_away HO_4.out (fun _ hk => hk.2.2.2)))) _).trans (((cell_far (p := ⟨gb655, _, none⟩) (by first | exact Kd.own_blk (Kd.R_away HO_4.out (fun _ hk => hk.2.2.2)) | (rw [add_block]; exact Kd.own_blk (Kd.R_away HO_4.out (fun _ hk => hk.2.2.2))) | (show (Addr.add _ _).block ≠ _; rw [add_block]; exact Kd.own_blk (Kd.R_away HO_4.out (fun _ hk => hk.2.2.2))) | (dsimp only; exact Kd.own_blk (Kd.R_away HO_4.out (fun _ hk => hk.2.2.2)))) _).trans (((cell_far (p := ⟨gb655, _, none⟩) (by first | exact Kd.own_blk (Kd.R_away HO_4.out (fun _ hk => hk.2.2.2)) | (rw [add_block]; exact Kd.own_blk (Kd.R_away HO_4.out (fun _ hk => hk.2.2.2))) | (show (Addr.add _ _).block ≠ _; rw [add_block]; exact Kd.own_blk (Kd.R_away HO_4.out (fun _ hk => hk.2.2.2))) | (dsimp only; exact Kd.own_blk (Kd.R_away HO_4.out (fun _ hk => hk.2.2.2)))) _).trans (((cell_far (p := ⟨gb655, _, none⟩) (by first | exact Kd.own_blk (Kd.R_away HO_4.out (fun _ hk => hk.2.2.2)) | (rw [add_block]; exact Kd.own_blk (Kd.R_away HO_4.out (fun _ hk => hk.2.2.2))) | (show (Addr.add _ _).block ≠ _; rw [add_block]; exact Kd.own_blk (Kd.R_away HO_4.out (fun _ hk => hk.2.2.2))) | (dsimp only; exact Kd.own_blk (Kd.R_away HO_4.out (fun _ hk => hk.2.2.2)))) _).trans (((cell_far (p := ⟨gb655, _, none⟩) (by first | exact Kd.own_blk (Kd.R_away HO_4.out (fun _ hk => hk.2.2.2)) | (rw [add_block]; exact Kd.own_blk (Kd.R_away HO_4.out (fun _ hk => hk.2.2.2))) | (show (Addr.add _ _).block ≠ _; rw [add_block]; exact Kd.own_blk (Kd.R_away HO_4.out (fun _ hk => hk.2.2.2))) | (dsimp only; exact Kd.own_blk (Kd.R_away HO_4.out (fun _ hk => hk.2.2.2)))) _).trans (((cell_far (p := ⟨gb655, _, none⟩) (by first | exact Kd.own_blk (Kd.R_away HO_4.out (fun _ hk => hk.2.2.2)) | (rw [add_block]; exact Kd.own_blk (Kd.R_away HO_4.out (fun _ hk => hk.2.2.2))) | (show (Addr.add _ _).block ≠ _; rw [add_block]; exact Kd.own_blk (Kd.R_away HO_4.out (fun _ hk => hk.2.2.2))) | (dsimp only; exact Kd.own_blk (Kd.R_away HO_4.out (fun _ hk => hk.2.2.2)))) _).trans (hHeld.2.2.2.2.2.2.2.2.2.1)))))))))))), ((cell_far (p := ⟨gb655, _, none⟩) (by first | exact Kd.own_blk (Kd.R_away HO_4.out (fun _ hk => hk.2.2.2)) | (rw [add_block]; exact Kd.own_blk (Kd.R_away HO_4.out (fun _ hk => hk.2.2.2))) | (show (Addr.add _ _).block ≠ _; rw [add_block]; exact Kd.own_blk (Kd.R_away HO_4.out (fun _ hk => hk.2.2.2))) | (dsimp only; exact Kd.own_blk (Kd.R_away HO_4.out (fun _ hk => hk.2.2.2)))) _).trans (((cell_far (p := ⟨gb655, _, none⟩) (by first | exact Kd.own_blk (Kd.R_away HO_4.out (fun _ hk => hk.2.2.2)) | (rw [add_block]; exact Kd.own_blk (Kd.R_away HO_4.out (fun _ hk => hk.2.2.2))) | (show (Addr.add _ _).block ≠ _; rw [add_block]; exact Kd.own_blk (Kd.R_away HO_4.out (fun _ hk => hk.2.2.2))) | (dsimp only; exact Kd.own_blk (Kd.R_away HO_4.out (fun _ hk => hk.2.2.2)))) _).trans (((cell_far (p := ⟨gb655, _, none⟩) (by first | exact Kd.own_blk (Kd.R_away HO_4.out (fun _ hk => hk.2.2.2)) | (rw [add_block]; exact Kd.own_blk (Kd.R_away HO_4.out (fun _ hk => hk.2.2.2))) | (show (Addr.add _ _).block ≠ _; rw [add_block]; exact Kd.own_blk (Kd.R_away HO_4.out (fun _ hk => hk.2.2.2))) | (dsimp only; exact Kd.own_blk (Kd.R_away HO_4.out (fun _ hk => hk.2.2.2)))) _).trans (((cell_far (p := ⟨gb655, _, none⟩) (by first | exact Kd.own_blk (Kd.R_away HO_4.out (fun _ hk => hk.2.2.2)) | (rw [add_block]; exact Kd.own_blk (Kd.R_away HO_4.out (fun _ hk => hk.2.2.2))) | (show (Addr.add _ _).block ≠ _; rw [add_block]; exact Kd.own_blk (Kd.R_away HO_4.out (fun _ hk => hk.2.2.2))) | (dsimp only; exact Kd.own_blk (Kd.R_away HO_4.out (fun _ hk => hk.2.2.2)))) _).trans (((cell_far (p := ⟨gb655, _, none⟩) (by first | exact Kd.own_blk (Kd.R_away HO_4.out (fun _ hk => hk.2.2.2)) | (rw [add_block]; exact Kd.own_blk (Kd.R_away HO_4.out (fun _ hk => hk.2.2.2))) | (show (Addr.add _ _).block ≠ _; rw [add_block]; exact Kd.own_blk (Kd.R_away HO_4.out (fun _ hk => hk.2.2.2))) | (dsimp only; exact Kd.own_blk (Kd.R_away HO_4.out (fun _ hk => hk.2.2.2)))) _).trans (((cell_far (p := ⟨gb655, _, none⟩) (by first | exact Kd.own_blk (Kd.R_away HO_4.out (fun _ hk => hk.2.2.2)) | (rw [add_block]; exact Kd.own_blk (Kd.R_away HO_4.out (fun _ hk => hk.2.2.2))) | (show (Addr.add _ _).block ≠ _; rw [add_block]; exact Kd.own_blk (Kd.R_away HO_4.out (fun _ hk => hk.2.2.2))) | (dsimp only; exact Kd.own_blk (Kd.R_away HO_4.out (fun _ hk => hk.2.2.2)))) _).trans (hHeld.2.2.2.2.2.2.2.2.2.2.1)))))))))))), ((cell_far (p := ⟨gb655, _, none⟩) (by first | exact Kd.own_blk (Kd.R_away HO_4.out (fun _ hk => hk.2.2.2)) | (rw [add_block]; exact Kd.own_blk (Kd.R_away HO_4.out (fun _ hk => hk.2.2.2))) | (show (Addr.add _ _).block ≠ _; rw [add_block]; exact Kd.own_blk (Kd.R_away HO_4.out (fun _ hk => hk.2.2.2))) | (dsimp only; exact Kd.own_blk (Kd.R_away HO_4.out (fun _ hk => hk.2.2.2)))) _).trans (((cell_far (p := ⟨gb655, _, none⟩) (by first | exact Kd.own_blk (Kd.R_away HO_4.out (fun _ hk => hk.2.2.2)) | (rw [add_block]; exact Kd.own_blk (Kd.R_away HO_4.out (fun _ hk => hk.2.2.2))) | (show (Addr.add _ _).block ≠ _; rw [add_block]; exact Kd.own_blk (Kd.R_away HO_4.out (fun _ hk => hk.2.2.2))) | (dsimp only; exact Kd.own_blk (Kd.R_away HO_4.out (fun _ hk => hk.2.2.2)))) _).trans (((cell_far (p := ⟨gb655, _, none⟩) (by first | exact Kd.own_blk (Kd.R_away HO_4.out (fun _ hk => hk.2.2.2)) | (rw [add_block]; exact Kd.own_blk (Kd.R_away HO_4.out (fun _ hk => hk.2.2.2))) | (show (Addr.add _ _).block ≠ _; rw [add_block]; exact Kd.own_blk (Kd.R_away HO_4.out (fun _ hk => hk.2.2.2))) | (dsimp only; exact Kd.own_blk (Kd.R_away HO_4.out (fun _ hk => hk.2.2.2)))) _).trans (((cell_far (p := ⟨gb655, _, none⟩) (by first | exact Kd.own_blk (Kd.R_away HO_4.out (fun _ hk => hk.2.2.2)) | (rw [add_block]; exact Kd.own_blk (Kd.R_away HO_4.out (fun _ hk => hk.2.2.2))) | (show (Addr.add _ _).block ≠ _; rw [add_block]; exact Kd.own_blk (Kd.R_away HO_4.out (fun _ hk => hk.2.2.2))) | (dsimp only; exact Kd.own_blk (Kd.R_away HO_4.out (fun _ hk => hk.2.2.2)))) _).trans (((cell_far (p := ⟨gb655, _, none⟩) (by first | exact Kd.own_blk (Kd.R_away HO_4.out (fun _ hk => hk.2.2.2)) | (rw [add_block]; exact Kd.own_blk (Kd.R_away HO_4.out (fun _ hk => hk.2.2.2))) | (show (Addr.add _ _).block ≠ _; rw [add_block]; exact Kd.own_blk (Kd.R_away HO_4.out (fun _ hk => hk.2.2.2))) | (dsimp only; exact Kd.own_blk (Kd.R_away HO_4.out (fun _ hk => hk.2.2.2)))) _).trans (((cell_far (p := ⟨gb655, _, none⟩) (by first | exact Kd.own_blk (Kd.R_away HO_4.out (fun _ hk => hk.2.2.2)) | (rw [add_block]; exact Kd.own_blk (Kd.R_away HO_4.out (fun _ hk => hk.2.2.2))) | (show (Addr.add _ _).block ≠ _; rw [add_block]; exact Kd.own_blk (Kd.R_away HO_4.out (fun _ hk => hk.2.2.2))) | (dsimp only; exact Kd.own_blk (Kd.R_away HO_4.out (fun _ hk => hk.2.2.2)))) _).trans (hHeld.2.2.2.2.2.2.2.2.2.2.2))))))))))))⟩ (fun hHeld => ?_)
            clear hK K
            refine pure_ (i := 11) (N := some 13) (v := ?_) (a' := ?_) #[true, true, true, true, true, true, true, true, true, true, true, true] rfl rfl (any_of HT_.out (by kernel_rfl)) (fun _ _ _ h => h) (Or.inl ⟨by rfl, ?_⟩) ?_ ?_
            rotate_left
            ·intro w'
             go_simp
             with_reducible rfl
            rotate_left
            ·simp only [Act.put, List.setIfInBounds_toArray, List.set_cons_zero, List.set_cons_succ, i64_w, i32_w]
             rfl
            refine done_ (done_of HT_.out (by kernel_rfl)) ?_
            have hnb48 := NB655_631.out
            have hnc48 := NB631_655.out
            have hnb49 := NB655_639.out
            have hnc49 := NB639_655.out
            have hnb50 := NB655_646.out
            have hnc50 := NB646_655.out
            obtain ⟨hcz51_0, hcz51_1, hcz51_2, hcz51_3, hcz51_4, hcz51_5⟩ := c6 BK655.out
            obtain ⟨hfz51_0, hfz51_1, hfz51_2, hfz51_3, hfz51_4, hfz51_5⟩ := f6 BK655.out
            have hnb52 := NB646_631.out
            have hnc52 := NB631_646.out
            have hnb53 := NB646_639.out
            have hnc53 := NB639_646.out
            obtain ⟨hcz54_0, hcz54_1, hcz54_2, hcz54_3, hcz54_4, hcz54_5⟩ := c6 BK646.out
            obtain ⟨hfz54_0, hfz54_1, hfz54_2, hfz54_3, hfz54_4, hfz54_5⟩ := f6 BK646.out
            try go_wp2
            go_roundg k2
            case measure => have := HK1.out; have := HK2.out; omega
            case rel => exact ⟨(wrap64 (x11_2 - 1)), (t648), (t649), (t650), (t651), (t652), (t653), (by first | rfl | (simp; done) | (simp [*]; done)), H', ⟨by have := HK1.out; have := HK2.out; omega⟩, ⟨by (with_reducible repeat (first | apply Kd.R_alloc | apply Kd.R_drewN | apply Kd.R_drew)); exact Kd.R_mono (Kd.R_far (p := ⟨gb646, 5, none⟩) (Kd.R_far (p := ⟨gb646, 4, none⟩) (Kd.R_far (p := ⟨gb646, 3, none⟩) (Kd.R_far (p := ⟨gb646, 2, none⟩) (Kd.R_far (p := ⟨gb646, 1, none⟩) (Kd.R_far (p := ⟨gb646, 0, none⟩) (Kd.R_far (p := ⟨gb655, 5, none⟩) (Kd.R_far (p := ⟨gb655, 4, none⟩) (Kd.R_far (p := ⟨gb655, 3, none⟩) (Kd.R_far (p := ⟨gb655, 2, none⟩) (Kd.R_far (p := ⟨gb655, 1, none⟩) (Kd.R_far (p := ⟨gb655, 0, none⟩) (Kd.R_mono (Kd.R_mono HO_4.out (fun k_ hk => (⟨hk, hk.2.2.2⟩ : _ ∧ k_ ≠ gb655))) (fun k_ hk => (⟨hk, hk.1.2.2.1⟩ : _ ∧ k_ ≠ gb646))) (fun _ hk => hk.1.2) (.int .i64 t648)) (fun _ hk => hk.1.2) (.int .i64 t649)) (fun _ hk => hk.1.2) (.int .i64 t650)) (fun _ hk => hk.1.2) (.int .i64 t651)) (fun _ hk => hk.1.2) (.string t652)) (fun _ hk => hk.1.2) (.string t653)) (fun _ hk => hk.2) (.int .i64 t648)) (fun _ hk => hk.2) (.int .i64 t649)) (fun _ hk => hk.2) (.int .i64 t650)) (fun _ hk => hk.2) (.int .i64 t651)) (fun _ hk => hk.2) (.string t652)) (fun _ hk => hk.2) (.string t653)) (fun _ hk => ⟨hk.1.1.1, ⟨hk.1.1.2.1, hk.1.1.2.2.1⟩⟩)⟩, ⟨by refine pl ?_; refine blk_far ?_ NB631_646.out _; refine pl ?_; refine blk_far ?_ NB631_646.out _; refine pl ?_; refine blk_far ?_ NB631_646.out _; refine pl ?_; refine blk_far ?_ NB631_646.out _; refine pl ?_; refine blk_far ?_ NB631_646.out _; refine pl ?_; refine blk_far ?_ NB631_646.out _; refine pl ?_; refine blk_far ?_ NB631_655.out _; refine pl ?_; refine blk_far ?_ NB631_655.out _; refine pl ?_; refine blk_far ?_ NB631_655.out _; refine pl ?_; refine blk_far ?_ NB631_655.out _; refine pl ?_; refine blk_far ?_ NB631_655.out _; refine pl ?_; refine blk_far ?_ NB631_655.out _; refine pl ?_; exact BK631.out⟩, ⟨by refine pl ?_; refine blk_far ?_ NB639_646.out _; refine pl ?_; refine blk_far ?_ NB639_646.out _; refine pl ?_; refine blk_far ?_ NB639_646.out _; refine pl ?_; refine blk_far ?_ NB639_646.out _; refine pl ?_; refine blk_far ?_ NB639_646.out _; refine pl ?_; refine blk_far ?_ NB639_646.out _; refine pl ?_; refine blk_far ?_ NB639_655.out _; refine pl ?_; refine blk_far ?_ NB639_655.out _; refine pl ?_; refine blk_far ?_ NB639_655.out _; refine pl ?_; refine blk_far ?_ NB639_655.out _; refine pl ?_; refine blk_far ?_ NB639_655.out _; refine pl ?_; refine blk_far ?_ NB639_655.out _; refine pl ?_; exact BK639.out⟩, ⟨by refine pl ?_; refine blk_put (cs := #[.int .i64 t648, .int .i64 t649, .int .i64 t650, .int .i64 t651, .string t652, .string x647005_2]) ?_ 5 _ rfl; refine pl ?_; refine blk_put (cs := #[.int .i64 t648, .int .i64 t649, .int .i64 t650, .int .i64 t651, .string x647004_2, .string x647005_2]) ?_ 4 _ rfl; refine pl ?_; refine blk_put (cs := #[.int .i64 t648, .int .i64 t649, .int .i64 t650, .int .i64 x647003_2, .string x647004_2, .string x647005_2]) ?_ 3 _ rfl; refine pl ?_; refine blk_put (cs := #[.int .i64 t648, .int .i64 t649, .int .i64 x647002_2, .int .i64 x647003_2, .string x647004_2, .string x647005_2]) ?_ 2 _ rfl; refine pl ?_; refine blk_put (cs := #[.int .i64 t648, .int .i64 x647001_2, .int .i64 x647002_2, .int .i64 x647003_2, .string x647004_2, .string x647005_2]) ?_ 1 _ rfl; refine pl ?_; refine blk_put (cs := #[.int .i64 x647000_2, .int .i64 x647001_2, .int .i64 x647002_2, .int .i64 x647003_2, .string x647004_2, .string x647005_2]) ?_ 0 _ rfl; refine pl ?_; refine blk_far ?_ NB646_655.out _; refine pl ?_; refine blk_far ?_ NB646_655.out _; refine pl ?_; refine blk_far ?_ NB646_655.out _; refine pl ?_; refine blk_far ?_ NB646_655.out _; refine pl ?_; refine blk_far ?_ NB646_655.out _; refine pl ?_; refine blk_far ?_ NB646_655.out _; refine pl ?_; exact BK646.out⟩, ⟨by repeat (first | (with_reducible first | exact HB.out | apply below_alloc | apply pw_below_drewN | apply below_drew1 | refine below_set ?_ GE631.out | refine below_set ?_ GE639.out | refine below_set ?_ GE646.out | refine below_set ?_ GE655.out) | exact HB.out)⟩⟩
           ·rw [if_neg c37] at H
            exact absurd H (by simp)
          ·rw [if_neg c35] at H
           exact absurd H (by simp)
         ·rw [if_neg c34] at H
          exact absurd H (by simp)
        ·rw [if_neg c33] at H
         have c33b0 : decide (0 ≤ x11_2) = false := decide_eq_false c33
         clear c33
         replace H := Option.bind_eq_some_iff.mp H
         obtain ⟨⟨t656, t657, t658, t659, t660, t661, t662⟩, A550, H⟩ := H
         replace H : (if t638 = 0 then (if t662 = true then (if ((t632 == t625 && (t633 == t626 && (t634 == t627 && (t635 == t628)))) && (t636.toList == t629.toList && (t637.toList == t630.toList))) = true then (if ((x647000_2 == t625 && (x647001_2 == t626 && (x647002_2 == t627 && (x647003_2 == t628)))) && (x647004_2.toList == t629.toList && (x647005_2.toList == t630.toList))) = true then (some ((t656 == t625 && (t657 == t626 && (t658 == t627 && (t659 == t628)))) && (t660.toList == t629.toList && (t661.toList == t630.toList)))) else (none)) else (none)) else (none)) else (none)) = some r := H
         have A55 := Aside0.mk A550
         clear A550
         by_cases c56 : t638 = 0
         ·rw [if_pos c56] at H
          have c56b0 : (t638 == 0) = true := beq_iff_eq.mpr c56
          have c56b1 : (t638 != 0) = false := bne_eq_false_iff_eq.mpr c56
          clear c56
          by_cases c57 : t662 = true
          ·subst c57
           have H1 : (if ((t632 == t625 && (t633 == t626 && (t634 == t627 && (t635 == t628)))) && (t636.toList == t629.toList && (t637.toList == t630.toList))) = true then (if ((x647000_2 == t625 && (x647001_2 == t626 && (x647002_2 == t627 && (x647003_2 == t628)))) && (x647004_2.toList == t629.toList && (x647005_2.toList == t630.toList))) = true then (some ((t656 == t625 && (t657 == t626 && (t658 == t627 && (t659 == t628)))) && (t660.toList == t629.toList && (t661.toList == t630.toList)))) else (none)) else (none)) = some r := by rw [if_pos rfl] at H; exact H
           clear H
           have H := H1
           clear H1
           by_cases c58 : ((t632 == t625 && (t633 == t626 && (t634 == t627 && (t635 == t628)))) && (t636.toList == t629.toList && (t637.toList == t630.toList))) = true
           ·rw [if_pos c58] at H
            have c58b0 : ((t632 == t625 && (t633 == t626 && (t634 == t627 && (t635 == t628)))) && (t636.toList == t629.toList && (t637.toList == t630.toList))) = true := c58
            clear c58
            by_cases c59 : ((x647000_2 == t625 && (x647001_2 == t626 && (x647002_2 == t627 && (x647003_2 == t628)))) && (x647004_2.toList == t629.toList && (x647005_2.toList == t630.toList))) = true
            ·rw [if_pos c59] at H
             have c59b0 : ((x647000_2 == t625 && (x647001_2 == t626 && (x647002_2 == t627 && (x647003_2 == t628)))) && (x647004_2.toList == t629.toList && (x647005_2.toList == t630.toList))) = true := c59
             clear c59
             obtain rfl := Option.some.inj H
             go_wp2_with (first | ((with_reducible refine gate_callee (f := 23) rfl ?_); refine goesL_ (some 65) rfl rfl Tryd.func23 (by kernel_rfl) rfl #[.slice Ao23 x4_1.length co23] rfl (by (try simp only [List.map_toArray, List.map_cons, List.map_nil]); first | done | rfl | (simp only [List.length_drop, List.length_take]; rfl)) ?_; (with_reducible refine (galleylaw05_halves.calls k2 _ _ x4_1 t656 t657 t658 t659 t660 t661 true _ ?side1 ?side2 ?side3 A55.out).mono ?_); (case side1 => first | (with_reducible exact HG.out) | exact Glob.Globs_below HG.out (by repeat (first | (with_reducible first | exact HB.out | apply below_alloc | apply pw_below_drewN | apply below_drew1 | refine below_set ?_ GE631.out | refine below_set ?_ GE639.out | refine below_set ?_ GE646.out) | exact HB.out))); (case side2 => repeat (first | exact (Kd.R_reads' HO_4.out).2.2 | (with_reducible refine Kd.C_alloc ?_ _) | (with_reducible refine Kd.C_drewN ?_ _) | (with_reducible refine Kd.C_drew ?_))); (case side3 => exact (Kd.R_reads' HO_4.out).2.1); rintro e w60 ⟨rfl, hb⟩; refine ⟨_, rfl, ?_⟩; have n0_ := Aside0.mk (Kd.R_below (by (with_reducible repeat (first | apply Kd.R_alloc | apply Kd.R_drewN | apply Kd.R_drew)); exact HO_4.out) hb); have n1_ := Aside0.mk (blk_below (pl BK631.out) hb); have n2_ := Aside0.mk (blk_below (pl BK639.out) hb); have n3_ := Aside0.mk (blk_below (pl BK646.out) hb); have n4_ := Aside0.mk (below_step (by repeat (first | (with_reducible first | exact HB.out | apply below_alloc | apply pw_below_drewN | apply below_drew1 | refine below_set ?_ GE631.out | refine below_set ?_ GE639.out | refine below_set ?_ GE646.out) | exact HB.out)) hb); clear HO_4; clear BK631; clear BK639; clear BK646; clear HB; have HO_4 := n0_; have BK631 := n1_; have BK639 := n2_; have BK646 := n3_; have HB := n4_; clear n0_ n1_ n2_ n3_ n4_; (try clear hb); (try clear hb2); (try clear hk); (try clear hi)) | ((with_reducible refine gate_dst (N := 14) rfl ?_); refine box_event ?hg (N := 14) ?hd (cs := #[.int .i64 0, .int .i64 0, .int .i64 0, .int .i64 0, .string (⟨#[]⟩ : ByteArray), .string (⟨#[]⟩ : ByteArray)]) (t := 26) ?hr ?_; (case hd => rfl); (case hg => rfl); (case hr => first | (go_simp; done) | (go_simp; rfl)); intro gb663 hg w61 hbox hb; have n0_ := Aside0.mk (Kd.R_below (Kd.R_elderB (by (with_reducible repeat (first | apply Kd.R_alloc | apply Kd.R_drewN | apply Kd.R_drew)); exact HO_4.out) gb663 (Nat.le_of_eq hg.symm)) hb); have n1_ := Aside0.mk (blk_below (pl BK631.out) hb); have n2_ := Aside0.mk (blk_below (pl BK639.out) hb); have n3_ := Aside0.mk (blk_below (pl BK646.out) hb); have n4_ := Aside0.mk (below_step (by repeat (first | (with_reducible first | exact HB.out | apply below_alloc | apply pw_below_drewN | apply below_drew1 | refine below_set ?_ GE631.out | refine below_set ?_ GE639.out | refine below_set ?_ GE646.out) | exact HB.out)) hb); have n5_ := Aside0.mk (hbox); have n6_ := Aside0.mk ((by rw [hg]; exact (below_size (by repeat (first | (with_reducible first | exact HB.out | apply below_alloc | apply pw_below_drewN | apply below_drew1 | refine below_set ?_ GE631.out | refine below_set ?_ GE639.out | refine below_set ?_ GE646.out) | exact HB.out))) : w.heap.size ≤ gb663)); have n7_ := Aside0.mk ((by rw [hg]; exact (below_size (by repeat (first | (with_reducible first | exact HB.out | apply below_alloc | apply pw_below_drewN | apply below_drew1 | refine below_set ?_ GE631.out | refine below_set ?_ GE639.out | refine below_set ?_ GE646.out) | exact HB.out))) : w.heap.size ≤ gb663)); have n8_ := Aside0.mk ((by rw [hg]; exact Nat.ne_of_lt (blk_lt (pl BK631.out)) : gb631 ≠ gb663)); have n9_ := Aside0.mk ((by rw [hg]; exact Nat.ne_of_gt (blk_lt (pl BK631.out)) : gb663 ≠ gb631)); have n10_ := Aside0.mk ((by rw [hg]; exact Nat.ne_of_lt (blk_lt (pl BK639.out)) : gb639 ≠ gb663)); have n11_ := Aside0.mk ((by rw [hg]; exact Nat.ne_of_gt (blk_lt (pl BK639.out)) : gb663 ≠ gb639)); have n12_ := Aside0.mk ((by rw [hg]; exact Nat.ne_of_lt (blk_lt (pl BK646.out)) : gb646 ≠ gb663)); have n13_ := Aside0.mk ((by rw [hg]; exact Nat.ne_of_gt (blk_lt (pl BK646.out)) : gb663 ≠ gb646)); clear HO_4; clear BK631; clear BK639; clear BK646; clear HB; have HO_4 := n0_; have BK631 := n1_; have BK639 := n2_; have BK646 := n3_; have HB := n4_; have BK663 := n5_; have GW663 := n6_; have GE663 := n7_; have NB631_663 := n8_; have NB663_631 := n9_; have NB639_663 := n10_; have NB663_639 := n11_; have NB646_663 := n12_; have NB663_646 := n13_; clear n0_ n1_ n2_ n3_ n4_ n5_ n6_ n7_ n8_ n9_ n10_ n11_ n12_ n13_; clear hb hbox hg; have hnb62 := NB663_631.out; have hnc62 := NB631_663.out; have hnb63 := NB663_639.out; have hnc63 := NB639_663.out; have hnb64 := NB663_646.out; have hnc64 := NB646_663.out; have hcz65_0 : w61.cell? ⟨gb663, 0, none⟩ = some (.int .i64 0) := (blk_cell BK663.out 0).trans rfl; have hcz65_1 : w61.cell? ⟨gb663, 1, none⟩ = some (.int .i64 0) := (blk_cell BK663.out 1).trans rfl; have hcz65_2 : w61.cell? ⟨gb663, 2, none⟩ = some (.int .i64 0) := (blk_cell BK663.out 2).trans rfl; have hcz65_3 : w61.cell? ⟨gb663, 3, none⟩ = some (.int .i64 0) := (blk_cell BK663.out 3).trans rfl; have hcz65_4 : w61.cell? ⟨gb663, 4, none⟩ = some (.string (⟨#[]⟩ : ByteArray)) := (blk_cell BK663.out 4).trans rfl; have hcz65_5 : w61.cell? ⟨gb663, 5, none⟩ = some (.string (⟨#[]⟩ : ByteArray)) := (blk_cell BK663.out 5).trans rfl; have hfz65_0 := blk_frozen BK663.out 0; have hfz65_1 := blk_frozen BK663.out 1; have hfz65_2 := blk_frozen BK663.out 2; have hfz65_3 := blk_frozen BK663.out 3; have hfz65_4 := blk_frozen BK663.out 4; have hfz65_5 := blk_frozen BK663.out 5; have hnb66 := NB639_631.out; have hnc66 := NB631_639.out; have hnb67 := NB639_646.out; have hnc67 := NB646_639.out; have hcz68_0 : w61.cell? ⟨gb639, 0, none⟩ = some (.int .i64 t632) := (blk_cell BK639.out 0).trans rfl; have hcz68_1 : w61.cell? ⟨gb639, 1, none⟩ = some (.int .i64 t633) := (blk_cell BK639.out 1).trans rfl; have hcz68_2 : w61.cell? ⟨gb639, 2, none⟩ = some (.int .i64 t634) := (blk_cell BK639.out 2).trans rfl; have hcz68_3 : w61.cell? ⟨gb639, 3, none⟩ = some (.int .i64 t635) := (blk_cell BK639.out 3).trans rfl; have hcz68_4 : w61.cell? ⟨gb639, 4, none⟩ = some (.string t636) := (blk_cell BK639.out 4).trans rfl; have hcz68_5 : w61.cell? ⟨gb639, 5, none⟩ = some (.string t637) := (blk_cell BK639.out 5).trans rfl; have hfz68_0 := blk_frozen BK639.out 0; have hfz68_1 := blk_frozen BK639.out 1; have hfz68_2 := blk_frozen BK639.out 2; have hfz68_3 := blk_frozen BK639.out 3; have hfz68_4 := blk_frozen BK639.out 4; have hfz68_5 := blk_frozen BK639.out 5; have hnb69 := NB631_646.out; have hnc69 := NB646_631.out; have hcz70_0 : w61.cell? ⟨gb631, 0, none⟩ = some (.int .i64 t625) := (blk_cell BK631.out 0).trans rfl; have hcz70_1 : w61.cell? ⟨gb631, 1, none⟩ = some (.int .i64 t626) := (blk_cell BK631.out 1).trans rfl; have hcz70_2 : w61.cell? ⟨gb631, 2, none⟩ = some (.int .i64 t627) := (blk_cell BK631.out 2).trans rfl; have hcz70_3 : w61.cell? ⟨gb631, 3, none⟩ = some (.int .i64 t628) := (blk_cell BK631.out 3).trans rfl; have hcz70_4 : w61.cell? ⟨gb631, 4, none⟩ = some (.string t629) := (blk_cell BK631.out 4).trans rfl; have hcz70_5 : w61.cell? ⟨gb631, 5, none⟩ = some (.string t630) := (blk_cell BK631.out 5).trans rfl; have hfz70_0 := blk_frozen BK631.out 0; have hfz70_1 := blk_frozen BK631.out 1; have hfz70_2 := blk_frozen BK631.out 2; have hfz70_3 := blk_frozen BK631.out 3; have hfz70_4 := blk_frozen BK631.out 4; have hfz70_5 := blk_frozen BK631.out 5; have hcz71_0 : w61.cell? ⟨gb646, 0, none⟩ = some (.int .i64 x647000_2) := (blk_cell BK646.out 0).trans rfl; have hcz71_1 : w61.cell? ⟨gb646, 1, none⟩ = some (.int .i64 x647001_2) := (blk_cell BK646.out 1).trans rfl; have hcz71_2 : w61.cell? ⟨gb646, 2, none⟩ = some (.int .i64 x647002_2) := (blk_cell BK646.out 2).trans rfl; have hcz71_3 : w61.cell? ⟨gb646, 3, none⟩ = some (.int .i64 x647003_2) := (blk_cell BK646.out 3).trans rfl; have hcz71_4 : w61.cell? ⟨gb646, 4, none⟩ = some (.string x647004_2) := (blk_cell BK646.out 4).trans rfl; have hcz71_5 : w61.cell? ⟨gb646, 5, none⟩ = some (.string x647005_2) := (blk_cell BK646.out 5).trans rfl; have hfz71_0 := blk_frozen BK646.out 0; have hfz71_1 := blk_frozen BK646.out 1; have hfz71_2 := blk_frozen BK646.out 2; have hfz71_3 := blk_frozen BK646.out 3; have hfz71_4 := blk_frozen BK646.out 4; have hfz71_5 := blk_frozen BK646.out 5))
             go_ret
             exact ⟨by first | rfl | (simp [errW_none, errW_some] <;> rfl) | (simp [*, errW_none, errW_some] <;> rfl), by repeat (first | (with_reducible first | exact HB.out | apply below_alloc | apply pw_below_drewN | apply below_drew1 | refine below_set ?_ GE631.out | refine below_set ?_ GE639.out | refine below_set ?_ GE646.out | refine below_set ?_ GE663.out) | exact HB.out)⟩
            ·rw [if_neg c59] at H
             exact absurd H (by simp)
           ·rw [if_neg c58] at H
            exact absurd H (by simp)
          ·replace c57 := Bool.eq_false_iff.mpr c57
           subst c57
           have H1 : (none) = some r := by rw [if_neg (show ¬ (false = true) by decide)] at H; exact H
           clear H
           have H := H1
           clear H1
           exact absurd H (by simp)
         ·rw [if_neg c56] at H
          exact absurd H (by simp)
 ·replace c3 := Bool.eq_false_iff.mpr c3
  subst c3
  have H1 : (none) = some r := by rw [if_neg (show ¬ (false = true) by decide)] at H; exact H
  clear H
  have H := H1
  clear H1
  exact absurd H (by simp)
end Go.Proofs.YtaojbcplmdjfnaaDoor.Pr

namespace Go.Proofs.YtaojbcplmdjfnaaDoor.PuWPieces
open Go.RowKit Go.Proofs.YtaojbcplmdjfnaaDoor.Pr Go.Proofs.YtaojbcplmdjfnaaDoor.Math Go.Proofs.YtaojbcplmdjfnaaDoor.Ev Go.Proofs.YtaojbcplmdjfnaaDoor.PuSz Go.Proofs.YtaojbcplmdjfnaaDoor.PuMs Go.Proofs.YtaojbcplmdjfnaaDoor.PuSm Go.Proofs.YtaojbcplmdjfnaaDoor.PuJn Go.Proofs.YtaojbcplmdjfnaaDoor.PuOf Go.Proofs.YtaojbcplmdjfnaaDoorW.PrintWords Go.Proofs.YtaojbcplmdjfnaaDoorW.PrintLast Go.Proofs.YtaojbcplmdjfnaaDoorW.PrintMore
set_option linter.unusedVariables false
set_option linter.unusedSimpArgs false
def sOf (x : List Int) : S26 := ⟨⟨(mOf x).1, (mOf x).2.1, (mOf x).2.2.1, (mOf x).2.2.2.1⟩, (mOf x).2.2.2.2.1, (mOf x).2.2.2.2.2⟩
theorem rd_sOf (L : List (List Int)) (i : Nat) (h : i < L.length) : rd_T26 (L.map sOf) (i : Int) = sOf L[i] := by
  simp [rd_T26, List.getD, List.getElem?_eq_getElem h]
theorem byt_flat {L : List (List Int)} (h : ∀ x ∈ L, Byt x) : Byt L.flatten := fun y hy => by
  obtain ⟨x, hx, hy'⟩ := List.mem_flatten.1 hy
  exact h x hx y hy'
theorem flat_take (L : List (List Int)) (i : Nat) (h : i < L.length) : (L.take i).flatten ++ L[i] = (L.take (i + 1)).flatten := by
  rw [List.take_succ_eq_append_getElem h, List.flatten_append]; simp
theorem flat_drop (L : List (List Int)) (i : Nat) (h : i < L.length) : L[i] ++ (L.drop (i + 1)).flatten = (L.drop i).flatten := by
  rw [List.drop_eq_getElem_cons h, List.flatten_cons]
theorem len_part (L : List (List Int)) (i : Nat) : ((L.take i).flatten).length + ((L.drop i).flatten).length = L.flatten.length := by
  rw [← List.length_append, ← List.flatten_append, List.take_append_drop]
theorem sum_l0 (L : List (List Int)) (hb : ∀ x ∈ L, Byt x) (hl : L.flatten.length ≤ 1048576) (hn : L.length ≤ 1048576) (d : Nat) : ∀ (k i : Nat), i + d = L.length →
    weld_Sum.l0 (k + 130 + d) (L.map sOf) (L.length : Int) i (mOf (L.take i).flatten).1 (mOf (L.take i).flatten).2.1 (mOf (L.take i).flatten).2.2.1 (mOf (L.take i).flatten).2.2.2.1 (mOf (L.take i).flatten).2.2.2.2.1 (mOf (L.take i).flatten).2.2.2.2.2 =
      some ((mOf L.flatten).1, (mOf L.flatten).2.1, (mOf L.flatten).2.2.1, (mOf L.flatten).2.2.2.1, (mOf L.flatten).2.2.2.2.1, (mOf L.flatten).2.2.2.2.2, 0) := by
  induction d with
  | zero =>
    intro k i hi
    rw [show k + 130 + 0 = (k + 129) + 1 from rfl, weld_Sum.l0, if_neg (by omega), List.take_of_length_le (by omega)]
  | succ d ih =>
    intro k i hi
    have hil : i < L.length := by omega
    have hp := len_part L (i + 1)
    have hft := flat_take L i hil
    have hlen : (L.take i).flatten.length + L[i].length ≤ 1048576 := by
      have := congrArg List.length hft
      rw [List.length_append] at this
      omega
    have hj := join_of (k + 130 + d) (by omega) (L.take i).flatten L[i] (byt_flat (fun x hx => hb x (List.mem_of_mem_take hx))) (hb _ (List.getElem_mem hil)) (by omega)
    rw [show k + 130 + (d + 1) = (k + 130 + d) + 1 from rfl, weld_Sum.l0, if_pos (by omega), if_pos (by omega), if_pos (by rw [List.length_map]; omega), rd_sOf L i hil]
    dsimp only [sOf]
    rw [hj, Option.bind_some]
    dsimp only
    rw [if_pos rfl, w64 (by omega) (by omega), hft]
    exact ih k (i + 1) (by omega)
theorem sum_eq' (L : List (List Int)) (hb : ∀ x ∈ L, Byt x) (hl : L.flatten.length ≤ 1048576) (hn : L.length ≤ 1048576) (k : Nat) (hk : 130 + L.length ≤ k) :
    weld_Sum.f k (L.map sOf) = some ((mOf L.flatten).1, (mOf L.flatten).2.1, (mOf L.flatten).2.2.1, (mOf L.flatten).2.2.2.1, (mOf L.flatten).2.2.2.2.1, (mOf L.flatten).2.2.2.2.2, 0) := by
  have h := sum_l0 L hb hl hn L.length (k - 130 - L.length) 0 (by omega)
  rw [show k - 130 - L.length + 130 + L.length = k by omega, List.take_zero, List.flatten_nil, mOf_nil, Int.natCast_zero] at h
  unfold weld_Sum.f
  rw [List.length_map]
  exact h
theorem halves_eq (m : Nat) : ∀ (L : List (List Int)), L.length ≤ m → (∀ x ∈ L, Byt x) → L.flatten.length ≤ 1048576 → L.length ≤ 1048576 → ∀ k, 130 + m ≤ k →
    galleylaw05_halves.f k (L.map sOf) = some ((mOf L.flatten).1, (mOf L.flatten).2.1, (mOf L.flatten).2.2.1, (mOf L.flatten).2.2.2.1, (mOf L.flatten).2.2.2.2.1, (mOf L.flatten).2.2.2.2.2, true) := by
  induction m with
  | zero =>
    intro L hL hb hl hn k hk
    obtain ⟨k, rfl⟩ : ∃ j, k = j + 1 := ⟨k - 1, by omega⟩
    have : L = [] := List.length_eq_zero_iff.1 (by omega)
    subst this
    rw [galleylaw05_halves.f, if_pos (by rfl), weldOf_eq [] (fun x hx => by cases hx) (by simp), Option.bind_some]
    rfl
  | succ m ih =>
    intro L hL hb hl hn k hk
    obtain ⟨k, rfl⟩ : ∃ j, k = j + 1 := ⟨k - 1, by omega⟩
    rw [galleylaw05_halves.f, List.length_map]
    by_cases h0 : L.length = 0
    · have : L = [] := List.length_eq_zero_iff.1 h0
      subst this
      rw [if_pos (by rfl), weldOf_eq [] (fun x hx => by cases hx) (by simp), Option.bind_some]
      rfl
    · rw [if_neg (by omega)]
      by_cases h1 : L.length = 1
      · have hr := rd_sOf L 0 (by omega)
        rw [Int.natCast_zero] at hr
        obtain ⟨x, rfl⟩ : ∃ x, L = [x] := List.length_eq_one_iff.1 h1
        rw [if_pos (by rfl), if_pos (by simp), hr]
        simp [sOf]
      · have hd : wrap64 ((L.length : Int) / 2) = ((L.length / 2 : Nat) : Int) := by rw [w64 (by omega) (by omega)]; omega
        have hp := len_part L (L.length / 2)
        have i1 := ih (L.take (L.length / 2)) (by rw [List.length_take]; omega) (fun x hx => hb x (List.mem_of_mem_take hx)) (by omega) (by rw [List.length_take]; omega) k (by omega)
        have i2 := ih (L.drop (L.length / 2)) (by rw [List.length_drop]; omega) (fun x hx => hb x (List.mem_of_mem_drop hx)) (by omega) (by rw [List.length_drop]; omega) k (by omega)
        have hj := join_of k (by omega) (L.take (L.length / 2)).flatten (L.drop (L.length / 2)).flatten (byt_flat (fun x hx => hb x (List.mem_of_mem_take hx))) (byt_flat (fun x hx => hb x (List.mem_of_mem_drop hx))) (by omega)
        rw [if_neg (by omega), hd, if_pos (by omega), if_pos (by omega), Int.toNat_natCast, ← List.map_take, ← List.map_drop, i1, Option.bind_some, i2, Option.bind_some]
        dsimp only
        rw [hj, Option.bind_some]
        dsimp only
        rw [if_pos rfl, if_pos rfl, ← List.flatten_append, List.take_append_drop]
        rfl
theorem pieces_l1 (L : List (List Int)) (hb : ∀ x ∈ L, Byt x) (hl : L.flatten.length ≤ 1048576) (hn : L.length ≤ 1048576) (d : Nat) : ∀ (k : Nat) (i : Int), i + 1 = d → d ≤ L.length →
    galleylaw05_WeldPieces.l1 (k + 140 + L.length + d) (L.map sOf) 0 i (mOf L.flatten).1 (mOf L.flatten).2.1 (mOf L.flatten).2.2.1 (mOf L.flatten).2.2.2.1 (mOf L.flatten).2.2.2.2.1 (mOf L.flatten).2.2.2.2.2 (mOf L.flatten).1 (mOf L.flatten).2.1 (mOf L.flatten).2.2.1 (mOf L.flatten).2.2.2.1 (mOf L.flatten).2.2.2.2.1 (mOf L.flatten).2.2.2.2.2
      (mOf (L.drop d).flatten).1 (mOf (L.drop d).flatten).2.1 (mOf (L.drop d).flatten).2.2.1 (mOf (L.drop d).flatten).2.2.2.1 (mOf (L.drop d).flatten).2.2.2.2.1 (mOf (L.drop d).flatten).2.2.2.2.2 = some true := by
  induction d with
  | zero =>
    intro k i hi hd
    rw [show k + 140 + L.length + 0 = (k + 139 + L.length) + 1 by omega, galleylaw05_WeldPieces.l1, if_neg (by omega), halves_eq L.length L (Nat.le_refl _) hb hl hn _ (by omega), Option.bind_some]
    dsimp only
    rw [if_pos rfl, if_pos rfl, if_pos (by simp), List.drop_zero, if_pos (by simp)]
    simp
  | succ d ih =>
    intro k i hi hd
    have hdl : d < L.length := by omega
    have hid : i = (d : Int) := by omega
    subst hid
    have hp := len_part L d
    have hfd := flat_drop L d hdl
    have hlen : L[d].length + (L.drop (d + 1)).flatten.length ≤ 1048576 := by
      have := congrArg List.length hfd
      rw [List.length_append] at this
      omega
    have hj := join_of (k + 140 + L.length + d) (by omega) L[d] (L.drop (d + 1)).flatten (hb _ (List.getElem_mem hdl)) (byt_flat (fun x hx => hb x (List.mem_of_mem_drop hx))) (by omega)
    rw [show k + 140 + L.length + (d + 1) = (k + 140 + L.length + d) + 1 from rfl, galleylaw05_WeldPieces.l1, if_pos (by omega), if_pos (by omega), if_pos (by rw [List.length_map]; omega), rd_sOf L d hdl]
    dsimp only [sOf]
    rw [hj, Option.bind_some]
    dsimp only
    rw [if_pos rfl, w64 (by omega) (by omega), hfd]
    exact ih k _ (by omega) (by omega)
theorem pieces_l0 (L : List (List Int)) (hb : ∀ x ∈ L, Byt x) (hl : L.flatten.length ≤ 1048576) (hn : L.length ≤ 1048576) (d : Nat) : ∀ (k i : Nat), i + d = L.length →
    galleylaw05_WeldPieces.l0 (k + 150 + 2 * L.length + d) (L.take i).flatten ((L.take i).map sOf) L (L.length : Int) i = some true := by
  induction d with
  | zero =>
    intro k i hi
    rw [show k + 150 + 2 * L.length + 0 = (k + 149 + 2 * L.length) + 1 by omega, galleylaw05_WeldPieces.l0, if_neg (by omega), List.take_of_length_le (by omega), if_neg (by omega)]
    rw [weldOf_eq _ (byt_flat hb) (by omega), Option.bind_some, sum_eq' L hb hl hn _ (by omega), Option.bind_some, weldOf_eq [] (fun x hx => by cases hx) (by simp), Option.bind_some]
    dsimp only
    rw [List.length_map, w64 (by omega) (by omega)]
    have h := pieces_l1 L hb hl hn L.length (k + 9) ((L.length : Int) - 1) (by omega) (Nat.le_refl _)
    rw [List.drop_length, List.flatten_nil] at h
    rw [show k + 149 + 2 * L.length = k + 9 + 140 + L.length + L.length by omega]
    exact h
  | succ d ih =>
    intro k i hi
    have hil : i < L.length := by omega
    have hp := len_part L (i + 1)
    have hft := flat_take L i hil
    have hlen : (L.take i).flatten.length + L[i].length ≤ 1048576 := by
      have := congrArg List.length hft
      rw [List.length_append] at this
      omega
    have hr : rd_L1 L (i : Int) = L[i] := by simp [rd_L1, List.getD, List.getElem?_eq_getElem hil]
    rw [show k + 150 + 2 * L.length + (d + 1) = (k + 150 + 2 * L.length + d) + 1 from rfl, galleylaw05_WeldPieces.l0, if_pos (by omega), if_pos (by omega), if_pos (by omega), hr, if_pos (by omega), weldOf_eq _ (hb _ (List.getElem_mem hil)) (by omega), Option.bind_some, if_pos (by rw [List.length_map, List.length_take]; omega), w64 (by omega) (by omega), hft]
    have hm : (L.take i).map sOf ++ [sOf L[i]] = (L.take (i + 1)).map sOf := by rw [List.take_succ_eq_append_getElem hil, List.map_append]; rfl
    have := ih k (i + 1) (by omega)
    rw [← hm] at this
    exact this
theorem WeldPieces (L : List (List Int)) (hb : ∀ x ∈ L, Byt x) (hl : L.flatten.length ≤ 1048576) (hn : L.length ≤ 1048576) : galleylaw05_WeldPieces.f (150 + 3 * L.length) L = some true := by
  have hf : galleylaw05_fixed.f = some true := rfl
  have h := pieces_l0 L hb hl hn L.length 0 0 (by omega)
  rw [show 0 + 150 + 2 * L.length + L.length = 150 + 3 * L.length by omega, List.take_zero, List.flatten_nil, List.map_nil, Int.natCast_zero] at h
  unfold galleylaw05_WeldPieces.f
  rw [hf, Option.bind_some, if_pos rfl]
  exact h
end Go.Proofs.YtaojbcplmdjfnaaDoor.PuWPieces
