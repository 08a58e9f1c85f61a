-- Laid by wip/drive/drive.py of this proof's repo (a driver over the kit's print): not typed by hand, not trusted: Lean checks it.
import Derived.Test.YtbbccljelfjnkaaDoorPr0
import Derived.Test.YtbbccljelfjnkaaDoorPr2
import Derived.Test.YtbbccljelfjnkaaDoorFAwake
namespace Go.Proofs.YtbbccljelfjnkaaDoor.Pr
open Go.RowKit Go.Proofs.YtbbccljelfjnkaaDoorW.PrintWords Go.Proofs.YtbbccljelfjnkaaDoorW.PrintLast Go.Proofs.YtbbccljelfjnkaaDoorW.PrintMore
attribute [local go_sem] max2_int min2_int max_two min_two max_three min_three max_four min_four   -- for this text's walks alone
set_option linter.unusedVariables false
set_option linter.unusedSimpArgs false

-- NOT PRINTED: function 6 (galleylaw01_OctetBack)

-- NOT PRINTED: function 7 (galleylaw01_OctetShape)

/-! ### galleylaw01_OctetWithin: function 8 -/
def galleylaw01_OctetWithin.l0 : Nat → List Int → List Int → Int → Option (Bool)
  | 0, _, _, _ => none
  | k + 1, x5, x6, x7 => if (wrap64 (x7 + (x5.length : Int))) ≤ (x6.length : Int) then (if 0 ≤ x7 then (if x7 ≤ (wrap64 (x7 + (x5.length : Int))) then (if (strOfNums ((x6.take ((wrap64 (x7 + (x5.length : Int))) : Int).toNat).drop (x7 : Int).toNat)).toList = (strOfNums x5).toList then (some false) else (galleylaw01_OctetWithin.l0 k x5 x6 (wrap64 (x7 + 1)))) else (none)) else (none)) else (some true)
def galleylaw01_OctetWithin.f (k : Nat) (a0 : Int) (a1 : Int) : Option (Bool) := (galleylaw01_awake.f).bind fun t201 => (if t201 = true then ((octet_Bytes.f k a0).bind fun t202 => ((octet_Bytes.f k a1).bind fun t205 => (if (strOfNums t202).toList = (strOfNums t205).toList then (some true) else (galleylaw01_OctetWithin.l0 k t202 t205 0)))) else (some false))
theorem galleylaw01_OctetWithin.mono_l : ∀ k, (∀ y0 y1 y2, LeO (galleylaw01_OctetWithin.l0 k y0 y1 y2) (galleylaw01_OctetWithin.l0 (k + 1) y0 y1 y2))
  | 0 => fun _ _ _ r h => by simp [galleylaw01_OctetWithin.l0] at h
  | k + 1 => by
    have ih0 := galleylaw01_OctetWithin.mono_l k
    · intro y0 y1 y2
      unfold galleylaw01_OctetWithin.l0
      repeat' first
      | (with_reducible exact ih0 _ _ _)
      | (with_reducible exact octet_Bytes.mono _ _)
      | (with_reducible exact LeO.refl _)
      | (with_reducible exact LeO.none _)
      | (with_reducible refine LeO.ite ?_ ?_)
      | (with_reducible refine LeO.bind ?_ (fun _ => ?_))
      | exact ih0 _ _ _
      | exact octet_Bytes.mono _ _
      | exact LeO.none _
      | refine LeO.ite ?_ ?_
      | refine LeO.bind ?_ (fun _ => ?_)
theorem galleylaw01_OctetWithin.mono : ∀ a0 a1 k, LeO (galleylaw01_OctetWithin.f k a0 a1) (galleylaw01_OctetWithin.f (k + 1) a0 a1) := by
  intro a0 a1 k
  have ih0 := galleylaw01_OctetWithin.mono_l k
  unfold galleylaw01_OctetWithin.f
  repeat' first
      | (with_reducible exact ih0 _ _ _)
      | (with_reducible exact octet_Bytes.mono _ _)
      | (with_reducible exact LeO.refl _)
      | (with_reducible exact LeO.none _)
      | (with_reducible refine LeO.ite ?_ ?_)
      | (with_reducible refine LeO.bind ?_ (fun _ => ?_))
      | exact ih0 _ _ _
      | exact octet_Bytes.mono _ _
      | exact LeO.none _
      | refine LeO.ite ?_ ?_
      | refine LeO.bind ?_ (fun _ => ?_)
set_option maxHeartbeats 8000000 in
set_option maxRecDepth 100000 in
theorem galleylaw01_OctetWithin.calls (k : Nat) (a0 : Int) (a1 : Int) (r : Bool) (w : World) (hG : Glob.Globs w) (h : galleylaw01_OctetWithin.f k a0 a1 = some r) :
    Calls Tryd.prog 8 #[.int .i32 a0, .int .i32 a1] w fun e w' => e = .returned (.bool r) ∧ Below w.heap.size w w' := by
  have HG := Aside0.mk hG
  clear hG
  have HB := Aside0.mk (Below.refl w.heap.size w)
  have H : ((galleylaw01_awake.f).bind fun t201 => (if t201 = true then ((octet_Bytes.f k a0).bind fun t202 => ((octet_Bytes.f k a1).bind fun t205 => (if (strOfNums t202).toList = (strOfNums t205).toList then (some true) else (galleylaw01_OctetWithin.l0 k t202 t205 0)))) else (some false))) = some r := h
  clear h
  replace H := Option.bind_eq_some_iff.mp H
  obtain ⟨t201, A30, H⟩ := H
  replace H : (if t201 = true then ((octet_Bytes.f k a0).bind fun t202 => ((octet_Bytes.f k a1).bind fun t205 => (if (strOfNums t202).toList = (strOfNums t205).toList then (some true) else (galleylaw01_OctetWithin.l0 k t202 t205 0)))) else (some false)) = some r := H
  have A3 := Aside0.mk A30
  clear A30
  by_cases c4 : t201 = true
  · subst c4
    have H1 : ((octet_Bytes.f k a0).bind fun t202 => ((octet_Bytes.f k a1).bind fun t205 => (if (strOfNums t202).toList = (strOfNums t205).toList then (some true) else (galleylaw01_OctetWithin.l0 k t202 t205 0)))) = some r := by rw [if_pos rfl] at H; exact H
    clear H
    have H := H1
    clear H1
    replace H := Option.bind_eq_some_iff.mp H
    obtain ⟨t202, A50, H⟩ := H
    replace H : ((octet_Bytes.f k a1).bind fun t205 => (if (strOfNums t202).toList = (strOfNums t205).toList then (some true) else (galleylaw01_OctetWithin.l0 k t202 t205 0))) = some r := H
    have A5 := Aside0.mk A50
    clear A50
    replace H := Option.bind_eq_some_iff.mp H
    obtain ⟨t205, A60, H⟩ := H
    replace H : (if (strOfNums t202).toList = (strOfNums t205).toList then (some true) else (galleylaw01_OctetWithin.l0 k t202 t205 0)) = some r := H
    have A6 := Aside0.mk A60
    clear A60
    by_cases c7 : (strOfNums t202).toList = (strOfNums t205).toList
    · rw [if_pos c7] at H
      have c7b0 : ((strOfNums t202).toList == (strOfNums t205).toList) = true := beq_iff_eq.mpr c7
      have c7b1 : ((strOfNums t202).toList != (strOfNums t205).toList) = false := bne_eq_false_iff_eq.mpr c7
      clear c7
      obtain rfl := Option.some.inj H
      go_enter Tryd.func8, Tryd.ntmps8
      go_wp2_with (first | (go_at_call 10; (with_reducible refine (galleylaw01_awake.calls  true _ ?side1 A3.out).mono ?_); (case side1 => first | exact HG.out | exact Glob.Globs_below HG.out (by repeat (first | (with_reducible first | exact HB.out | apply below_alloc | apply pw_below_drewN | apply below_drew1) | exact HB.out))); rintro e w8 ⟨rfl, hb⟩; have n0_ := Aside0.mk (below_step (by repeat (first | (with_reducible first | exact HB.out | apply below_alloc | apply pw_below_drewN | apply below_drew1) | exact HB.out)) hb); clear HB; have HB := n0_; clear n0_; (try clear hb); (try clear hb2); (try clear hk); (try clear hi)) | (go_at_call 21; (with_reducible refine (octet_Bytes.calls k a0 t202 _ A5.out).mono ?_); rintro e w9 ⟨v203, rfl, ho0, hb⟩; have n0_ := Aside0.mk (Kd.R_lower ho0 (below_size (by repeat (first | (with_reducible first | exact HB.out | apply below_alloc | apply pw_below_drewN | apply below_drew1) | exact HB.out)))); have n1_ := Aside0.mk (below_step (by repeat (first | (with_reducible first | exact HB.out | apply below_alloc | apply pw_below_drewN | apply below_drew1) | exact HB.out)) hb); clear HB; have HO204 := n0_; have HB := n1_; clear n0_ n1_; (try clear hb); (try clear hb2); (try clear hk); (try clear hi); (try clear ho0)) | (go_at_call 21; (with_reducible refine (octet_Bytes.calls k a1 t205 _ A6.out).mono ?_); rintro e w10 ⟨v206, rfl, ho0, hb⟩; have n0_ := Aside0.mk (Kd.R_elder' (by (with_reducible repeat (first | apply Kd.R_alloc | apply Kd.R_drewN | apply Kd.R_drew)); exact HO204.out) (Kd.R_base ho0) hb); have n1_ := Aside0.mk (Kd.R_lower (Kd.R_new' ho0 (Kd.R_lt (by (with_reducible repeat (first | apply Kd.R_alloc | apply Kd.R_drewN | apply Kd.R_drew)); exact HO204.out))) (below_size (by repeat (first | (with_reducible first | exact HB.out | apply below_alloc | apply pw_below_drewN | apply below_drew1) | exact HB.out)))); have n2_ := Aside0.mk (below_step (by repeat (first | (with_reducible first | exact HB.out | apply below_alloc | apply pw_below_drewN | apply below_drew1) | exact HB.out)) hb); clear HO204; clear HB; have HO204 := n0_; have HO207 := n1_; have HB := n2_; clear n0_ n1_ n2_; (try clear hb); (try clear hb2); (try clear hk); (try clear hi); (try clear ho0); have hcv11 := own_string (P := Tryd.prog) Tryd.underlying27 Tryd.underlying5 Tryd.underlying9 (Kd.own_of_R HO204.out); have hcv11q := fun nq => own_string (P := Tryd.prog) Tryd.underlying27 Tryd.underlying5 Tryd.underlying9 (pw_own_drewN (Kd.own_of_R HO204.out) nq); have hcv12 := own_string (P := Tryd.prog) Tryd.underlying27 Tryd.underlying5 Tryd.underlying9 (Kd.own_of_R HO207.out); have hcv12q := fun nq => own_string (P := Tryd.prog) Tryd.underlying27 Tryd.underlying5 Tryd.underlying9 (pw_own_drewN (Kd.own_of_R HO207.out) nq)))
      repeat (go_quiet (first | (go_at_call 10; (with_reducible refine (galleylaw01_awake.calls  true _ ?side1 A3.out).mono ?_); (case side1 => first | exact HG.out | exact Glob.Globs_below HG.out (by repeat (first | (with_reducible first | exact HB.out | apply below_alloc | apply pw_below_drewN | apply below_drew1) | exact HB.out))); rintro e w8 ⟨rfl, hb⟩; have n0_ := Aside0.mk (below_step (by repeat (first | (with_reducible first | exact HB.out | apply below_alloc | apply pw_below_drewN | apply below_drew1) | exact HB.out)) hb); clear HB; have HB := n0_; clear n0_; (try clear hb); (try clear hb2); (try clear hk); (try clear hi)) | (go_at_call 21; (with_reducible refine (octet_Bytes.calls k a0 t202 _ A5.out).mono ?_); rintro e w9 ⟨v203, rfl, ho0, hb⟩; have n0_ := Aside0.mk (Kd.R_lower ho0 (below_size (by repeat (first | (with_reducible first | exact HB.out | apply below_alloc | apply pw_below_drewN | apply below_drew1) | exact HB.out)))); have n1_ := Aside0.mk (below_step (by repeat (first | (with_reducible first | exact HB.out | apply below_alloc | apply pw_below_drewN | apply below_drew1) | exact HB.out)) hb); clear HB; have HO204 := n0_; have HB := n1_; clear n0_ n1_; (try clear hb); (try clear hb2); (try clear hk); (try clear hi); (try clear ho0)) | (go_at_call 21; (with_reducible refine (octet_Bytes.calls k a1 t205 _ A6.out).mono ?_); rintro e w10 ⟨v206, rfl, ho0, hb⟩; have n0_ := Aside0.mk (Kd.R_elder' (by (with_reducible repeat (first | apply Kd.R_alloc | apply Kd.R_drewN | apply Kd.R_drew)); exact HO204.out) (Kd.R_base ho0) hb); have n1_ := Aside0.mk (Kd.R_lower (Kd.R_new' ho0 (Kd.R_lt (by (with_reducible repeat (first | apply Kd.R_alloc | apply Kd.R_drewN | apply Kd.R_drew)); exact HO204.out))) (below_size (by repeat (first | (with_reducible first | exact HB.out | apply below_alloc | apply pw_below_drewN | apply below_drew1) | exact HB.out)))); have n2_ := Aside0.mk (below_step (by repeat (first | (with_reducible first | exact HB.out | apply below_alloc | apply pw_below_drewN | apply below_drew1) | exact HB.out)) hb); clear HO204; clear HB; have HO204 := n0_; have HO207 := n1_; have HB := n2_; clear n0_ n1_ n2_; (try clear hb); (try clear hb2); (try clear hk); (try clear hi); (try clear ho0); have hcv11 := own_string (P := Tryd.prog) Tryd.underlying27 Tryd.underlying5 Tryd.underlying9 (Kd.own_of_R HO204.out); have hcv11q := fun nq => own_string (P := Tryd.prog) Tryd.underlying27 Tryd.underlying5 Tryd.underlying9 (pw_own_drewN (Kd.own_of_R HO204.out) nq); have hcv12 := own_string (P := Tryd.prog) Tryd.underlying27 Tryd.underlying5 Tryd.underlying9 (Kd.own_of_R HO207.out); have hcv12q := fun nq => own_string (P := Tryd.prog) Tryd.underlying27 Tryd.underlying5 Tryd.underlying9 (pw_own_drewN (Kd.own_of_R HO207.out) nq))); try go_wp2_with (first | (go_at_call 10; (with_reducible refine (galleylaw01_awake.calls  true _ ?side1 A3.out).mono ?_); (case side1 => first | exact HG.out | exact Glob.Globs_below HG.out (by repeat (first | (with_reducible first | exact HB.out | apply below_alloc | apply pw_below_drewN | apply below_drew1) | exact HB.out))); rintro e w8 ⟨rfl, hb⟩; have n0_ := Aside0.mk (below_step (by repeat (first | (with_reducible first | exact HB.out | apply below_alloc | apply pw_below_drewN | apply below_drew1) | exact HB.out)) hb); clear HB; have HB := n0_; clear n0_; (try clear hb); (try clear hb2); (try clear hk); (try clear hi)) | (go_at_call 21; (with_reducible refine (octet_Bytes.calls k a0 t202 _ A5.out).mono ?_); rintro e w9 ⟨v203, rfl, ho0, hb⟩; have n0_ := Aside0.mk (Kd.R_lower ho0 (below_size (by repeat (first | (with_reducible first | exact HB.out | apply below_alloc | apply pw_below_drewN | apply below_drew1) | exact HB.out)))); have n1_ := Aside0.mk (below_step (by repeat (first | (with_reducible first | exact HB.out | apply below_alloc | apply pw_below_drewN | apply below_drew1) | exact HB.out)) hb); clear HB; have HO204 := n0_; have HB := n1_; clear n0_ n1_; (try clear hb); (try clear hb2); (try clear hk); (try clear hi); (try clear ho0)) | (go_at_call 21; (with_reducible refine (octet_Bytes.calls k a1 t205 _ A6.out).mono ?_); rintro e w10 ⟨v206, rfl, ho0, hb⟩; have n0_ := Aside0.mk (Kd.R_elder' (by (with_reducible repeat (first | apply Kd.R_alloc | apply Kd.R_drewN | apply Kd.R_drew)); exact HO204.out) (Kd.R_base ho0) hb); have n1_ := Aside0.mk (Kd.R_lower (Kd.R_new' ho0 (Kd.R_lt (by (with_reducible repeat (first | apply Kd.R_alloc | apply Kd.R_drewN | apply Kd.R_drew)); exact HO204.out))) (below_size (by repeat (first | (with_reducible first | exact HB.out | apply below_alloc | apply pw_below_drewN | apply below_drew1) | exact HB.out)))); have n2_ := Aside0.mk (below_step (by repeat (first | (with_reducible first | exact HB.out | apply below_alloc | apply pw_below_drewN | apply below_drew1) | exact HB.out)) hb); clear HO204; clear HB; have HO204 := n0_; have HO207 := n1_; have HB := n2_; clear n0_ n1_ n2_; (try clear hb); (try clear hb2); (try clear hk); (try clear hi); (try clear ho0); have hcv11 := own_string (P := Tryd.prog) Tryd.underlying27 Tryd.underlying5 Tryd.underlying9 (Kd.own_of_R HO204.out); have hcv11q := fun nq => own_string (P := Tryd.prog) Tryd.underlying27 Tryd.underlying5 Tryd.underlying9 (pw_own_drewN (Kd.own_of_R HO204.out) nq); have hcv12 := own_string (P := Tryd.prog) Tryd.underlying27 Tryd.underlying5 Tryd.underlying9 (Kd.own_of_R HO207.out); have hcv12q := fun nq => own_string (P := Tryd.prog) Tryd.underlying27 Tryd.underlying5 Tryd.underlying9 (pw_own_drewN (Kd.own_of_R HO207.out) nq))))
      go_ret
      exact ⟨by first | rfl | (simp [errW_none, errW_some] <;> rfl) | (simp [*, errW_none, errW_some] <;> rfl), by repeat (first | (with_reducible first | exact HB.out | apply below_alloc | apply pw_below_drewN | apply below_drew1) | exact HB.out)⟩
    · rw [if_neg c7] at H
      have c7b0 : ((strOfNums t202).toList == (strOfNums t205).toList) = false := beq_eq_false_iff_ne.mpr c7
      have c7b1 : ((strOfNums t202).toList != (strOfNums t205).toList) = true := bne_iff_ne.mpr c7
      have H' := Aside0.mk H
      clear H
      go_enter Tryd.func8, Tryd.ntmps8
      go_wp2_with (first | (go_at_call 10; (with_reducible refine (galleylaw01_awake.calls  true _ ?side1 A3.out).mono ?_); (case side1 => first | exact HG.out | exact Glob.Globs_below HG.out (by repeat (first | (with_reducible first | exact HB.out | apply below_alloc | apply pw_below_drewN | apply below_drew1) | exact HB.out))); rintro e w13 ⟨rfl, hb⟩; have n0_ := Aside0.mk (below_step (by repeat (first | (with_reducible first | exact HB.out | apply below_alloc | apply pw_below_drewN | apply below_drew1) | exact HB.out)) hb); clear HB; have HB := n0_; clear n0_; (try clear hb); (try clear hb2); (try clear hk); (try clear hi)) | (go_at_call 21; (with_reducible refine (octet_Bytes.calls k a0 t202 _ A5.out).mono ?_); rintro e w14 ⟨v203, rfl, ho0, hb⟩; have n0_ := Aside0.mk (Kd.R_lower ho0 (below_size (by repeat (first | (with_reducible first | exact HB.out | apply below_alloc | apply pw_below_drewN | apply below_drew1) | exact HB.out)))); have n1_ := Aside0.mk (below_step (by repeat (first | (with_reducible first | exact HB.out | apply below_alloc | apply pw_below_drewN | apply below_drew1) | exact HB.out)) hb); clear HB; have HO204 := n0_; have HB := n1_; clear n0_ n1_; (try clear hb); (try clear hb2); (try clear hk); (try clear hi); (try clear ho0)) | (go_at_call 21; (with_reducible refine (octet_Bytes.calls k a1 t205 _ A6.out).mono ?_); rintro e w15 ⟨v206, rfl, ho0, hb⟩; have n0_ := Aside0.mk (Kd.R_elder' (by (with_reducible repeat (first | apply Kd.R_alloc | apply Kd.R_drewN | apply Kd.R_drew)); exact HO204.out) (Kd.R_base ho0) hb); have n1_ := Aside0.mk (Kd.R_lower (Kd.R_new' ho0 (Kd.R_lt (by (with_reducible repeat (first | apply Kd.R_alloc | apply Kd.R_drewN | apply Kd.R_drew)); exact HO204.out))) (below_size (by repeat (first | (with_reducible first | exact HB.out | apply below_alloc | apply pw_below_drewN | apply below_drew1) | exact HB.out)))); have n2_ := Aside0.mk (below_step (by repeat (first | (with_reducible first | exact HB.out | apply below_alloc | apply pw_below_drewN | apply below_drew1) | exact HB.out)) hb); clear HO204; clear HB; have HO204 := n0_; have HO207 := n1_; have HB := n2_; clear n0_ n1_ n2_; (try clear hb); (try clear hb2); (try clear hk); (try clear hi); (try clear ho0); have hcv16 := own_string (P := Tryd.prog) Tryd.underlying27 Tryd.underlying5 Tryd.underlying9 (Kd.own_of_R HO204.out); have hcv16q := fun nq => own_string (P := Tryd.prog) Tryd.underlying27 Tryd.underlying5 Tryd.underlying9 (pw_own_drewN (Kd.own_of_R HO204.out) nq); have hcv17 := own_string (P := Tryd.prog) Tryd.underlying27 Tryd.underlying5 Tryd.underlying9 (Kd.own_of_R HO207.out); have hcv17q := fun nq => own_string (P := Tryd.prog) Tryd.underlying27 Tryd.underlying5 Tryd.underlying9 (pw_own_drewN (Kd.own_of_R HO207.out) nq)))
      repeat (go_quiet (first | (go_at_call 10; (with_reducible refine (galleylaw01_awake.calls  true _ ?side1 A3.out).mono ?_); (case side1 => first | exact HG.out | exact Glob.Globs_below HG.out (by repeat (first | (with_reducible first | exact HB.out | apply below_alloc | apply pw_below_drewN | apply below_drew1) | exact HB.out))); rintro e w13 ⟨rfl, hb⟩; have n0_ := Aside0.mk (below_step (by repeat (first | (with_reducible first | exact HB.out | apply below_alloc | apply pw_below_drewN | apply below_drew1) | exact HB.out)) hb); clear HB; have HB := n0_; clear n0_; (try clear hb); (try clear hb2); (try clear hk); (try clear hi)) | (go_at_call 21; (with_reducible refine (octet_Bytes.calls k a0 t202 _ A5.out).mono ?_); rintro e w14 ⟨v203, rfl, ho0, hb⟩; have n0_ := Aside0.mk (Kd.R_lower ho0 (below_size (by repeat (first | (with_reducible first | exact HB.out | apply below_alloc | apply pw_below_drewN | apply below_drew1) | exact HB.out)))); have n1_ := Aside0.mk (below_step (by repeat (first | (with_reducible first | exact HB.out | apply below_alloc | apply pw_below_drewN | apply below_drew1) | exact HB.out)) hb); clear HB; have HO204 := n0_; have HB := n1_; clear n0_ n1_; (try clear hb); (try clear hb2); (try clear hk); (try clear hi); (try clear ho0)) | (go_at_call 21; (with_reducible refine (octet_Bytes.calls k a1 t205 _ A6.out).mono ?_); rintro e w15 ⟨v206, rfl, ho0, hb⟩; have n0_ := Aside0.mk (Kd.R_elder' (by (with_reducible repeat (first | apply Kd.R_alloc | apply Kd.R_drewN | apply Kd.R_drew)); exact HO204.out) (Kd.R_base ho0) hb); have n1_ := Aside0.mk (Kd.R_lower (Kd.R_new' ho0 (Kd.R_lt (by (with_reducible repeat (first | apply Kd.R_alloc | apply Kd.R_drewN | apply Kd.R_drew)); exact HO204.out))) (below_size (by repeat (first | (with_reducible first | exact HB.out | apply below_alloc | apply pw_below_drewN | apply below_drew1) | exact HB.out)))); have n2_ := Aside0.mk (below_step (by repeat (first | (with_reducible first | exact HB.out | apply below_alloc | apply pw_below_drewN | apply below_drew1) | exact HB.out)) hb); clear HO204; clear HB; have HO204 := n0_; have HO207 := n1_; have HB := n2_; clear n0_ n1_ n2_; (try clear hb); (try clear hb2); (try clear hk); (try clear hi); (try clear ho0); have hcv16 := own_string (P := Tryd.prog) Tryd.underlying27 Tryd.underlying5 Tryd.underlying9 (Kd.own_of_R HO204.out); have hcv16q := fun nq => own_string (P := Tryd.prog) Tryd.underlying27 Tryd.underlying5 Tryd.underlying9 (pw_own_drewN (Kd.own_of_R HO204.out) nq); have hcv17 := own_string (P := Tryd.prog) Tryd.underlying27 Tryd.underlying5 Tryd.underlying9 (Kd.own_of_R HO207.out); have hcv17q := fun nq => own_string (P := Tryd.prog) Tryd.underlying27 Tryd.underlying5 Tryd.underlying9 (pw_own_drewN (Kd.own_of_R HO207.out) nq))); try go_wp2_with (first | (go_at_call 10; (with_reducible refine (galleylaw01_awake.calls  true _ ?side1 A3.out).mono ?_); (case side1 => first | exact HG.out | exact Glob.Globs_below HG.out (by repeat (first | (with_reducible first | exact HB.out | apply below_alloc | apply pw_below_drewN | apply below_drew1) | exact HB.out))); rintro e w13 ⟨rfl, hb⟩; have n0_ := Aside0.mk (below_step (by repeat (first | (with_reducible first | exact HB.out | apply below_alloc | apply pw_below_drewN | apply below_drew1) | exact HB.out)) hb); clear HB; have HB := n0_; clear n0_; (try clear hb); (try clear hb2); (try clear hk); (try clear hi)) | (go_at_call 21; (with_reducible refine (octet_Bytes.calls k a0 t202 _ A5.out).mono ?_); rintro e w14 ⟨v203, rfl, ho0, hb⟩; have n0_ := Aside0.mk (Kd.R_lower ho0 (below_size (by repeat (first | (with_reducible first | exact HB.out | apply below_alloc | apply pw_below_drewN | apply below_drew1) | exact HB.out)))); have n1_ := Aside0.mk (below_step (by repeat (first | (with_reducible first | exact HB.out | apply below_alloc | apply pw_below_drewN | apply below_drew1) | exact HB.out)) hb); clear HB; have HO204 := n0_; have HB := n1_; clear n0_ n1_; (try clear hb); (try clear hb2); (try clear hk); (try clear hi); (try clear ho0)) | (go_at_call 21; (with_reducible refine (octet_Bytes.calls k a1 t205 _ A6.out).mono ?_); rintro e w15 ⟨v206, rfl, ho0, hb⟩; have n0_ := Aside0.mk (Kd.R_elder' (by (with_reducible repeat (first | apply Kd.R_alloc | apply Kd.R_drewN | apply Kd.R_drew)); exact HO204.out) (Kd.R_base ho0) hb); have n1_ := Aside0.mk (Kd.R_lower (Kd.R_new' ho0 (Kd.R_lt (by (with_reducible repeat (first | apply Kd.R_alloc | apply Kd.R_drewN | apply Kd.R_drew)); exact HO204.out))) (below_size (by repeat (first | (with_reducible first | exact HB.out | apply below_alloc | apply pw_below_drewN | apply below_drew1) | exact HB.out)))); have n2_ := Aside0.mk (below_step (by repeat (first | (with_reducible first | exact HB.out | apply below_alloc | apply pw_below_drewN | apply below_drew1) | exact HB.out)) hb); clear HO204; clear HB; have HO204 := n0_; have HO207 := n1_; have HB := n2_; clear n0_ n1_ n2_; (try clear hb); (try clear hb2); (try clear hk); (try clear hi); (try clear ho0); have hcv16 := own_string (P := Tryd.prog) Tryd.underlying27 Tryd.underlying5 Tryd.underlying9 (Kd.own_of_R HO204.out); have hcv16q := fun nq => own_string (P := Tryd.prog) Tryd.underlying27 Tryd.underlying5 Tryd.underlying9 (pw_own_drewN (Kd.own_of_R HO204.out) nq); have hcv17 := own_string (P := Tryd.prog) Tryd.underlying27 Tryd.underlying5 Tryd.underlying9 (Kd.own_of_R HO207.out); have hcv17q := fun nq => own_string (P := Tryd.prog) Tryd.underlying27 Tryd.underlying5 Tryd.underlying9 (pw_own_drewN (Kd.own_of_R HO207.out) nq))))
      go_loopg [7] k (fun kq v7 w' => ∃ (x7_1 : Int), v7 = .int .i64 x7_1 ∧ Aside0 (galleylaw01_OctetWithin.l0 kq t202 t205 x7_1 = some r) ∧ Aside0 (kq ≤ k) ∧ Aside0 (Kd.R (Kd.int .u8) 5 w' w.heap.size (fun k_ => some k_ ≠ (v206 : Value).ownBlock) v203 t202) ∧ Aside0 (Kd.R (Kd.int .u8) 5 w' w.heap.size (fun k_ => some k_ ≠ (v203 : Value).ownBlock) v206 t205) ∧ Aside0 (Below w.heap.size w w'))
      case atStart => exact ⟨(0), (by first | rfl | (simp; done) | (simp [*]; done)), H', ⟨Nat.le_refl _⟩, ⟨by (with_reducible repeat (first | apply Kd.R_alloc | apply Kd.R_drewN | apply Kd.R_drew)); exact Kd.R_mono HO204.out (fun _ hk => hk.2)⟩, ⟨by (with_reducible repeat (first | apply Kd.R_alloc | apply Kd.R_drewN | apply Kd.R_drew)); exact Kd.R_mono HO207.out (fun _ hk => hk.2)⟩, ⟨by repeat (first | (with_reducible first | exact HB.out | apply below_alloc | apply pw_below_drewN | apply below_drew1) | exact HB.out)⟩⟩
      case round =>
        clear H'
        try clear hcv1
        try clear p2
        try clear c4
        try clear c7
        try clear c7b0
        try clear c7b1
        try clear c8
        try clear hcv11
        try clear hcv12
        try clear hcv16
        try clear hcv17
        obtain ⟨x7_1, rfl, HA, HK1, HO_5, HO_6, HB⟩ := hrel
        cases gk with
        | zero => exact absurd HA.out (by simp [galleylaw01_OctetWithin.l0])
        | succ k1 =>
          have H := HA.out
          clear HA
          simp only [galleylaw01_OctetWithin.l0] at H
          by_cases c18 : (wrap64 (x7_1 + (t202.length : Int))) ≤ (t205.length : Int)
          · rw [if_pos c18] at H
            have c18b0 : decide ((wrap64 (x7_1 + (t202.length : Int))) ≤ (t205.length : Int)) = true := decide_eq_true c18
            clear c18
            by_cases c19 : 0 ≤ x7_1
            · rw [if_pos c19] at H
              have c19b0 := eq_true c19
              have c19b1 : decide (0 ≤ x7_1) = true := decide_eq_true c19
              clear c19
              by_cases c20 : x7_1 ≤ (wrap64 (x7_1 + (t202.length : Int)))
              · rw [if_pos c20] at H
                have c20b0 := eq_true c20
                have c20b1 : decide (x7_1 ≤ (wrap64 (x7_1 + (t202.length : Int)))) = true := decide_eq_true c20
                have c21b0 := eq_true (of_decide_eq_true (by first | (with_reducible assumption) | assumption) : (wrap64 (x7_1 + (t202.length : Int))) ≤ (t205.length : Int))
                obtain ⟨y208, hy208⟩ : ∃ y_ : List Int, y_ = ((t205.take ((wrap64 (x7_1 + (t202.length : Int))) : Int).toNat).drop (x7_1 : Int).toNat) := ⟨_, rfl⟩
                replace H : (if (strOfNums y208).toList = (strOfNums t202).toList then (some false) else (galleylaw01_OctetWithin.l0 k1 t202 t205 (wrap64 (x7_1 + 1)))) = some r := by first | (rw [hy208]; with_reducible exact H) | (have H2_ := (Option.bind_some _ _).symm.trans H; rw [hy208]; with_reducible exact H2_) | (have H2_ := (Option.bind_some _ _).symm.trans H; with_reducible exact H2_) | with_reducible exact H | (rw [hy208]; exact H) | exact H
                have Ny208 := Aside0.mk hy208
                clear hy208
                by_cases c22 : (strOfNums y208).toList = (strOfNums t202).toList
                · rw [if_pos c22] at H
                  have c22b0 : ((strOfNums y208).toList == (strOfNums t202).toList) = true := beq_iff_eq.mpr c22
                  have c22b1 : ((strOfNums y208).toList != (strOfNums t202).toList) = false := bne_eq_false_iff_eq.mpr c22
                  clear c22
                  obtain rfl := Option.some.inj H
                  obtain ⟨Ao23, co23, eo23⟩ := Kd.R_slice HO_5.out
                  subst eo23
                  obtain ⟨Ao24, co24, eo24⟩ := Kd.R_slice HO_6.out
                  subst eo24
                  have q25 : ((wrap64 (x7_1 + (t202.length : Int))) : Int) ≤ ((t205.length : Int) : Int) := of_decide_eq_true (by first | (with_reducible assumption) | assumption)
                  obtain ⟨i025, hi025, _, hsz25, _⟩ := info_parts info5
                  have hroom25 : t205.length ≤ co24 := (Kd.R_reads' HO_6.out).2.1
                  have hC25 : Kd.C (Kd.int .u8) _ Ao24 t205.length t205 := (Kd.R_reads' HO_6.out).2.2
                  have ql25 : (x7_1 : Int) ≤ ((wrap64 (x7_1 + (t202.length : Int))) : Int) := of_decide_eq_true (by first | (with_reducible assumption) | assumption)
                  have q025 : (0 : Int) ≤ (x7_1 : Int) := of_decide_eq_true (by first | (with_reducible assumption) | assumption)
                  have hcut25 := cut_mid (P := Tryd.prog) 27 5 .i64 .i64 Tryd.underlying27 hi025 1 hsz25 Ao24 t205.length co24 x7_1 (wrap64 (x7_1 + (t202.length : Int))) q025 ql25 q25 hroom25
                  have hr25 := Kd.C_mid (lo := (x7_1 : Int).toNat) (hi := ((wrap64 (x7_1 + (t202.length : Int))) : Int).toNat) (c := co24) hC25 (by omega) (by omega) hroom25
                  obtain ⟨A25, hA25⟩ : ∃ A1, A1 = (if co24 = (x7_1 : Int).toNat then Ao24 else (Ao24 : Option Addr).map (·.add ((x7_1 : Int).toNat * 1))) := ⟨_, rfl⟩
                  obtain ⟨c25, hc25⟩ : ∃ c1, c1 = co24 - (x7_1 : Int).toNat := ⟨_, rfl⟩
                  have hy25 : y208.length = ((wrap64 (x7_1 + (t202.length : Int))) : Int).toNat - (x7_1 : Int).toNat := (by rw [Ny208.out, List.length_drop, List.length_take] <;> omega)
                  rw [show ((t205).take ((wrap64 (x7_1 + (t202.length : Int))) : Int).toNat).drop (x7_1 : Int).toNat = y208 from Ny208.out.symm] at hr25
                  replace hr25 : Kd.C (Kd.int .u8) _ A25 y208.length y208 := (by rw [hA25]; exact hr25)
                  rw [← hy25, ← hA25, ← hc25] at hcut25
                  have HR211 := Aside0.mk hr25
                  have HC211 := Aside0.mk (show y208.length ≤ c25 from by rw [hy25, hc25]; exact Nat.sub_le_sub_right (Nat.le_trans (by omega) hroom25) _)
                  clear hr25 hC25 hroom25 hi025 hsz25 hc25
                  have KY25 := Aside0.mk hy25
                  have KA25 := Aside0.mk hA25
                  clear hy25 hA25
                  have KL25 := Aside0.mk (show ((wrap64 (x7_1 + (t202.length : Int))) : Int).toNat ≤ t205.length from by omega)
                  have KM25 := Aside0.mk (show (x7_1 : Int).toNat ≤ ((wrap64 (x7_1 + (t202.length : Int))) : Int).toNat from by omega)
                  replace q25 := eq_true q25
                  have hcv26 := Kd.C_string (P := Tryd.prog) (A := A25) (c := c25) Tryd.underlying27 Tryd.underlying5 Tryd.underlying9 (by repeat (first | (with_reducible exact HR211.out) | (with_reducible refine Kd.C_alloc ?_ _) | (with_reducible refine Kd.C_drewN ?_ _) | (with_reducible refine Kd.C_drew ?_) | exact HR211.out)); have hcv26q := fun nq => Kd.C_string (P := Tryd.prog) (A := A25) (c := c25) Tryd.underlying27 Tryd.underlying5 Tryd.underlying9 (Kd.C_drewN (by repeat (first | (with_reducible exact HR211.out) | (with_reducible refine Kd.C_alloc ?_ _) | (with_reducible refine Kd.C_drewN ?_ _) | (with_reducible refine Kd.C_drew ?_) | exact HR211.out)) nq)
                  have hcv27 := own_string (P := Tryd.prog) Tryd.underlying27 Tryd.underlying5 Tryd.underlying9 (Kd.own_of_R HO_5.out); have hcv27q := fun nq => own_string (P := Tryd.prog) Tryd.underlying27 Tryd.underlying5 Tryd.underlying9 (pw_own_drewN (Kd.own_of_R HO_5.out) nq)
                  have hwq : IntKind.i64.wrap (x7_1 + (t202.length : Int)) = wrap64 (x7_1 + (t202.length : Int)) := IntWalk.i64_left _
                  go_wp2
                  repeat (go_quiet (fail); try go_wp2)
                  go_ret
                  exact ⟨by first | rfl | (simp [errW_none, errW_some] <;> rfl) | (simp [*, errW_none, errW_some] <;> rfl), by repeat (first | (with_reducible first | exact HB.out | apply below_alloc | apply pw_below_drewN | apply below_drew1) | exact HB.out)⟩
                · rw [if_neg c22] at H
                  have c22b0 : ((strOfNums y208).toList == (strOfNums t202).toList) = false := beq_eq_false_iff_ne.mpr c22
                  have c22b1 : ((strOfNums y208).toList != (strOfNums t202).toList) = true := bne_iff_ne.mpr c22
                  have H' := Aside0.mk H
                  clear H
                  obtain ⟨Ao28, co28, eo28⟩ := Kd.R_slice HO_5.out
                  subst eo28
                  obtain ⟨Ao29, co29, eo29⟩ := Kd.R_slice HO_6.out
                  subst eo29
                  have q30 : ((wrap64 (x7_1 + (t202.length : Int))) : Int) ≤ ((t205.length : Int) : Int) := of_decide_eq_true (by first | (with_reducible assumption) | assumption)
                  obtain ⟨i030, hi030, _, hsz30, _⟩ := info_parts info5
                  have hroom30 : t205.length ≤ co29 := (Kd.R_reads' HO_6.out).2.1
                  have hC30 : Kd.C (Kd.int .u8) _ Ao29 t205.length t205 := (Kd.R_reads' HO_6.out).2.2
                  have ql30 : (x7_1 : Int) ≤ ((wrap64 (x7_1 + (t202.length : Int))) : Int) := of_decide_eq_true (by first | (with_reducible assumption) | assumption)
                  have q030 : (0 : Int) ≤ (x7_1 : Int) := of_decide_eq_true (by first | (with_reducible assumption) | assumption)
                  have hcut30 := cut_mid (P := Tryd.prog) 27 5 .i64 .i64 Tryd.underlying27 hi030 1 hsz30 Ao29 t205.length co29 x7_1 (wrap64 (x7_1 + (t202.length : Int))) q030 ql30 q30 hroom30
                  have hr30 := Kd.C_mid (lo := (x7_1 : Int).toNat) (hi := ((wrap64 (x7_1 + (t202.length : Int))) : Int).toNat) (c := co29) hC30 (by omega) (by omega) hroom30
                  obtain ⟨A30, hA30⟩ : ∃ A1, A1 = (if co29 = (x7_1 : Int).toNat then Ao29 else (Ao29 : Option Addr).map (·.add ((x7_1 : Int).toNat * 1))) := ⟨_, rfl⟩
                  obtain ⟨c30, hc30⟩ : ∃ c1, c1 = co29 - (x7_1 : Int).toNat := ⟨_, rfl⟩
                  have hy30 : y208.length = ((wrap64 (x7_1 + (t202.length : Int))) : Int).toNat - (x7_1 : Int).toNat := (by rw [Ny208.out, List.length_drop, List.length_take] <;> omega)
                  rw [show ((t205).take ((wrap64 (x7_1 + (t202.length : Int))) : Int).toNat).drop (x7_1 : Int).toNat = y208 from Ny208.out.symm] at hr30
                  replace hr30 : Kd.C (Kd.int .u8) _ A30 y208.length y208 := (by rw [hA30]; exact hr30)
                  rw [← hy30, ← hA30, ← hc30] at hcut30
                  have HR211 := Aside0.mk hr30
                  have HC211 := Aside0.mk (show y208.length ≤ c30 from by rw [hy30, hc30]; exact Nat.sub_le_sub_right (Nat.le_trans (by omega) hroom30) _)
                  clear hr30 hC30 hroom30 hi030 hsz30 hc30
                  have KY30 := Aside0.mk hy30
                  have KA30 := Aside0.mk hA30
                  clear hy30 hA30
                  have KL30 := Aside0.mk (show ((wrap64 (x7_1 + (t202.length : Int))) : Int).toNat ≤ t205.length from by omega)
                  have KM30 := Aside0.mk (show (x7_1 : Int).toNat ≤ ((wrap64 (x7_1 + (t202.length : Int))) : Int).toNat from by omega)
                  replace q30 := eq_true q30
                  have hcv31 := Kd.C_string (P := Tryd.prog) (A := A30) (c := c30) Tryd.underlying27 Tryd.underlying5 Tryd.underlying9 (by repeat (first | (with_reducible exact HR211.out) | (with_reducible refine Kd.C_alloc ?_ _) | (with_reducible refine Kd.C_drewN ?_ _) | (with_reducible refine Kd.C_drew ?_) | exact HR211.out)); have hcv31q := fun nq => Kd.C_string (P := Tryd.prog) (A := A30) (c := c30) Tryd.underlying27 Tryd.underlying5 Tryd.underlying9 (Kd.C_drewN (by repeat (first | (with_reducible exact HR211.out) | (with_reducible refine Kd.C_alloc ?_ _) | (with_reducible refine Kd.C_drewN ?_ _) | (with_reducible refine Kd.C_drew ?_) | exact HR211.out)) nq)
                  have hcv32 := own_string (P := Tryd.prog) Tryd.underlying27 Tryd.underlying5 Tryd.underlying9 (Kd.own_of_R HO_5.out); have hcv32q := fun nq => own_string (P := Tryd.prog) Tryd.underlying27 Tryd.underlying5 Tryd.underlying9 (pw_own_drewN (Kd.own_of_R HO_5.out) nq)
                  have hwq : IntKind.i64.wrap (x7_1 + (t202.length : Int)) = wrap64 (x7_1 + (t202.length : Int)) := IntWalk.i64_left _
                  go_wp2
                  repeat (go_quiet (fail); try go_wp2)
                  go_roundg k1
                  case measure => have := HK1.out; omega
                  case rel => exact ⟨(wrap64 (x7_1 + 1)), (by first | rfl | (simp; done) | (simp [*]; done)), H', ⟨by have := HK1.out; omega⟩, ⟨by (with_reducible repeat (first | apply Kd.R_alloc | apply Kd.R_drewN | apply Kd.R_drew)); exact HO_5.out⟩, ⟨by (with_reducible repeat (first | apply Kd.R_alloc | apply Kd.R_drewN | apply Kd.R_drew)); exact HO_6.out⟩, ⟨by repeat (first | (with_reducible first | exact HB.out | apply below_alloc | apply pw_below_drewN | apply below_drew1) | exact HB.out)⟩⟩
              · rw [if_neg c20] at H
                exact absurd H (by simp)
            · rw [if_neg c19] at H
              exact absurd H (by simp)
          · rw [if_neg c18] at H
            have c18b0 : decide ((wrap64 (x7_1 + (t202.length : Int))) ≤ (t205.length : Int)) = false := decide_eq_false c18
            clear c18
            obtain rfl := Option.some.inj H
            obtain ⟨Ao33, co33, eo33⟩ := Kd.R_slice HO_5.out
            subst eo33
            obtain ⟨Ao34, co34, eo34⟩ := Kd.R_slice HO_6.out
            subst eo34
            go_wp2
            repeat (go_quiet (fail); try go_wp2)
            go_ret
            exact ⟨by first | rfl | (simp [errW_none, errW_some] <;> rfl) | (simp [*, errW_none, errW_some] <;> rfl), by repeat (first | (with_reducible first | exact HB.out | apply below_alloc | apply pw_below_drewN | apply below_drew1) | exact HB.out)⟩
  · replace c4 := Bool.eq_false_iff.mpr c4
    subst c4
    have H1 : (some false) = some r := by rw [if_neg (show ¬ (false = true) by decide)] at H; exact H
    clear H
    have H := H1
    clear H1
    obtain rfl := Option.some.inj H
    go_enter Tryd.func8, Tryd.ntmps8
    go_wp2_with (first | (go_at_call 10; (with_reducible refine (galleylaw01_awake.calls  false _ ?side1 A3.out).mono ?_); (case side1 => first | exact HG.out | exact Glob.Globs_below HG.out (by repeat (first | (with_reducible first | exact HB.out | apply below_alloc | apply pw_below_drewN | apply below_drew1) | exact HB.out))); rintro e w35 ⟨rfl, hb⟩; have n0_ := Aside0.mk (below_step (by repeat (first | (with_reducible first | exact HB.out | apply below_alloc | apply pw_below_drewN | apply below_drew1) | exact HB.out)) hb); clear HB; have HB := n0_; clear n0_; (try clear hb); (try clear hb2); (try clear hk); (try clear hi)))
    repeat (go_quiet (first | (go_at_call 10; (with_reducible refine (galleylaw01_awake.calls  false _ ?side1 A3.out).mono ?_); (case side1 => first | exact HG.out | exact Glob.Globs_below HG.out (by repeat (first | (with_reducible first | exact HB.out | apply below_alloc | apply pw_below_drewN | apply below_drew1) | exact HB.out))); rintro e w35 ⟨rfl, hb⟩; have n0_ := Aside0.mk (below_step (by repeat (first | (with_reducible first | exact HB.out | apply below_alloc | apply pw_below_drewN | apply below_drew1) | exact HB.out)) hb); clear HB; have HB := n0_; clear n0_; (try clear hb); (try clear hb2); (try clear hk); (try clear hi))); try go_wp2_with (first | (go_at_call 10; (with_reducible refine (galleylaw01_awake.calls  false _ ?side1 A3.out).mono ?_); (case side1 => first | exact HG.out | exact Glob.Globs_below HG.out (by repeat (first | (with_reducible first | exact HB.out | apply below_alloc | apply pw_below_drewN | apply below_drew1) | exact HB.out))); rintro e w35 ⟨rfl, hb⟩; have n0_ := Aside0.mk (below_step (by repeat (first | (with_reducible first | exact HB.out | apply below_alloc | apply pw_below_drewN | apply below_drew1) | exact HB.out)) hb); clear HB; have HB := n0_; clear n0_; (try clear hb); (try clear hb2); (try clear hk); (try clear hi))))
    go_ret
    exact ⟨by first | rfl | (simp [errW_none, errW_some] <;> rfl) | (simp [*, errW_none, errW_some] <;> rfl), by repeat (first | (with_reducible first | exact HB.out | apply below_alloc | apply pw_below_drewN | apply below_drew1) | exact HB.out)⟩

/-- THE ONE PURE STATEMENT of galleylaw01_OctetWithin: yours. -/
def galleylaw01_OctetWithin.Pure : Prop := ∀ (a0 : Int) (a1 : Int), (Lit.int .i32 a0).wf = true → (Lit.int .i32 a1).wf = true → ∃ k, galleylaw01_OctetWithin.f k a0 a1 = some true
theorem galleylaw01_OctetWithin.walk (P : galleylaw01_OctetWithin.Pure) (a0 : Int) (a1 : Int) (w : World) (hG : Glob.Globs w) (w0 : (Lit.int .i32 a0).wf = true) (w1 : (Lit.int .i32 a1).wf = true) :
    Calls Tryd.prog 8 #[.int .i32 a0, .int .i32 a1] w fun e w' => e = .returned (.bool true) ∧ Below w.heap.size w w' := by
  obtain ⟨k, h⟩ := P a0 a1 w0 w1
  refine (galleylaw01_OctetWithin.calls k a0 a1 true w hG h).mono ?_
  rintro e w' ⟨rfl, hd⟩
  exact ⟨rfl, hd⟩

end Go.Proofs.YtbbccljelfjnkaaDoor.Pr
