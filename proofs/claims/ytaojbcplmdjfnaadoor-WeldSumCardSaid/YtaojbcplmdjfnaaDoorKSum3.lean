/- Part 3 of the lemmas on which the card weldSum_card stands (its sentence and conditions stand in the last text). Conditions: as each lemma says. -/
import Derived.Test.YtaojbcplmdjfnaaDoorKSum2
import Derived.Lib.RuneCountTail
namespace Go.Proofs.YtaojbcplmdjfnaaDoor.Pr
open Go.RowKit Go.Proofs.YtaojbcplmdjfnaaDoorW.PrintWords Go.Proofs.YtaojbcplmdjfnaaDoorW.PrintLast Go.Proofs.YtaojbcplmdjfnaaDoorW.PrintMore
attribute [local go_sem] max2_int min2_int max_two min_two max_three min_three max_four min_four   -- for this text's walks alone
set_option linter.unusedVariables false
set_option linter.unusedSimpArgs false
mutual
def galleyref02_Long.j0 : Nat → Int → Int → Int → Int → Bool → Option (Int)
 | 0, _, _, _, _, _ => none
 | k + 1, x5, x6, x7, x8, x31 => if x31 = true then (some 2) else ((galleyref02_in.f x7 128 191).bind fun t218 => (if t218 = true then (if x5 = 224 then ((galleyref02_in.f x6 160 191).bind fun t219 => (if t219 = true then (some 3) else ((galleyref02_in.f x5 225 236).bind fun t220 => (if t220 = true then ((galleyref02_in.f x6 128 191).bind fun t221 => (if t221 = true then (some 3) else (if x5 = 237 then ((galleyref02_in.f x6 128 159).bind fun t222 => (if t222 = true then (some 3) else ((galleyref02_in.f x5 238 239).bind fun t223 => (if t223 = true then ((galleyref02_in.f x6 128 191).bind fun t224 => (if t224 = true then (some 3) else (galleyref02_Long.j1 k x5 x6 x7 x8))) else (galleyref02_Long.j1 k x5 x6 x7 x8))))) else ((galleyref02_in.f x5 238 239).bind fun t225 => (if t225 = true then ((galleyref02_in.f x6 128 191).bind fun t226 => (if t226 = true then (some 3) else (galleyref02_Long.j1 k x5 x6 x7 x8))) else (galleyref02_Long.j1 k x5 x6 x7 x8)))))) else (if x5 = 237 then ((galleyref02_in.f x6 128 159).bind fun t227 => (if t227 = true then (some 3) else ((galleyref02_in.f x5 238 239).bind fun t228 => (if t228 = true then ((galleyref02_in.f x6 128 191).bind fun t229 => (if t229 = true then (some 3) else (galleyref02_Long.j1 k x5 x6 x7 x8))) else (galleyref02_Long.j1 k x5 x6 x7 x8))))) else ((galleyref02_in.f x5 238 239).bind fun t230 => (if t230 = true then ((galleyref02_in.f x6 128 191).bind fun t231 => (if t231 = true then (some 3) else (galleyref02_Long.j1 k x5 x6 x7 x8))) else (galleyref02_Long.j1 k x5 x6 x7 x8)))))))) else ((galleyref02_in.f x5 225 236).bind fun t232 => (if t232 = true then ((galleyref02_in.f x6 128 191).bind fun t233 => (if t233 = true then (some 3) else (if x5 = 237 then ((galleyref02_in.f x6 128 159).bind fun t234 => (if t234 = true then (some 3) else ((galleyref02_in.f x5 238 239).bind fun t235 => (if t235 = true then ((galleyref02_in.f x6 128 191).bind fun t236 => (if t236 = true then (some 3) else (galleyref02_Long.j1 k x5 x6 x7 x8))) else (galleyref02_Long.j1 k x5 x6 x7 x8))))) else ((galleyref02_in.f x5 238 239).bind fun t237 => (if t237 = true then ((galleyref02_in.f x6 128 191).bind fun t238 => (if t238 = true then (some 3) else (galleyref02_Long.j1 k x5 x6 x7 x8))) else (galleyref02_Long.j1 k x5 x6 x7 x8)))))) else (if x5 = 237 then ((galleyref02_in.f x6 128 159).bind fun t239 => (if t239 = true then (some 3) else ((galleyref02_in.f x5 238 239).bind fun t240 => (if t240 = true then ((galleyref02_in.f x6 128 191).bind fun t241 => (if t241 = true then (some 3) else (galleyref02_Long.j1 k x5 x6 x7 x8))) else (galleyref02_Long.j1 k x5 x6 x7 x8))))) else ((galleyref02_in.f x5 238 239).bind fun t242 => (if t242 = true then ((galleyref02_in.f x6 128 191).bind fun t243 => (if t243 = true then (some 3) else (galleyref02_Long.j1 k x5 x6 x7 x8))) else (galleyref02_Long.j1 k x5 x6 x7 x8))))))) else (galleyref02_Long.j1 k x5 x6 x7 x8)))
def galleyref02_Long.j1 : Nat → Int → Int → Int → Int → Option (Int)
 | 0, _, _, _, _ => none
 | k + 1, x5, x6, x7, x8 => (galleyref02_in.f x7 128 191).bind fun t244 => (if t244 = true then ((galleyref02_in.f x8 128 191).bind fun t245 => (galleyref02_Long.j2 k x5 x6 t245)) else (galleyref02_Long.j2 k x5 x6 false))
def galleyref02_Long.j2 : Nat → Int → Int → Bool → Option (Int)
 | 0, _, _, _ => none
 | k + 1, x5, x6, x69 => if x69 = true then (if x5 = 240 then ((galleyref02_in.f x6 144 191).bind fun t246 => (if t246 = true then (some 4) else ((galleyref02_in.f x5 241 243).bind fun t247 => (if t247 = true then ((galleyref02_in.f x6 128 191).bind fun t248 => (if t248 = true then (some 4) else (if x5 = 244 then ((galleyref02_in.f x6 128 143).bind fun t249 => (if t249 = true then (some 4) else (some 0))) else (some 0)))) else (if x5 = 244 then ((galleyref02_in.f x6 128 143).bind fun t250 => (if t250 = true then (some 4) else (some 0))) else (some 0)))))) else ((galleyref02_in.f x5 241 243).bind fun t251 => (if t251 = true then ((galleyref02_in.f x6 128 191).bind fun t252 => (if t252 = true then (some 4) else (if x5 = 244 then ((galleyref02_in.f x6 128 143).bind fun t253 => (if t253 = true then (some 4) else (some 0))) else (some 0)))) else (if x5 = 244 then ((galleyref02_in.f x6 128 143).bind fun t254 => (if t254 = true then (some 4) else (some 0))) else (some 0))))) else (some 0)
end
def galleyref02_Long.f (k : Nat) (l0 : List Int) (a1 : Int) : Option (Int) := (galleyref02_at.f l0 a1).bind fun t211 => ((galleyref02_at.f l0 (wrap64 (a1 + 1))).bind fun t212 => ((galleyref02_at.f l0 (wrap64 (a1 + 2))).bind fun t213 => ((galleyref02_at.f l0 (wrap64 (a1 + 3))).bind fun t214 => ((galleyref02_in.f t211 0 127).bind fun t215 => (if t215 = true then (some 1) else ((galleyref02_in.f t211 194 223).bind fun t216 => (if t216 = true then ((galleyref02_in.f t212 128 191).bind fun t217 => (galleyref02_Long.j0 k t211 t212 t213 t214 t217)) else (galleyref02_Long.j0 k t211 t212 t213 t214 false))))))))
set_option maxHeartbeats 8000000 in
set_option maxRecDepth 100000 in
theorem galleyref02_Long.calls (k : Nat) (A0 : Option Addr) (c0 : Nat) (l0 : List Int) (a1 : Int) (r : Int) (w : World) (hr0 : Kd.C (Kd.int .u8) w A0 l0.length l0) (hc0 : l0.length ≤ c0) (h : galleyref02_Long.f k l0 a1 = some r) :
  Calls Tryd.prog 42 #[.slice A0 l0.length c0, .int .i64 a1] w fun e w' => e = .returned (.int .i64 r) ∧ Drawn0 w w' := by
 have HR0 := Aside0.mk hr0; have HC0 := Aside0.mk hc0; clear hr0 hc0
 have H : ((galleyref02_at.f l0 a1).bind fun t211 => ((galleyref02_at.f l0 (wrap64 (a1 + 1))).bind fun t212 => ((galleyref02_at.f l0 (wrap64 (a1 + 2))).bind fun t213 => ((galleyref02_at.f l0 (wrap64 (a1 + 3))).bind fun t214 => ((galleyref02_in.f t211 0 127).bind fun t215 => (if t215 = true then (some 1) else ((galleyref02_in.f t211 194 223).bind fun t216 => (if t216 = true then ((galleyref02_in.f t212 128 191).bind fun t217 => (galleyref02_Long.j0 k t211 t212 t213 t214 t217)) else (galleyref02_Long.j0 k t211 t212 t213 t214 false))))))))) = some r := h
 clear h
 replace H := Option.bind_eq_some_iff.mp H
 obtain ⟨t211, A30, H⟩ := H
 have A3 := Aside0.mk A30; clear A30
 replace H := Option.bind_eq_some_iff.mp H
 obtain ⟨t212, A40, H⟩ := H
 have A4 := Aside0.mk A40; clear A40
 replace H := Option.bind_eq_some_iff.mp H
 obtain ⟨t213, A50, H⟩ := H
 have A5 := Aside0.mk A50; clear A50
 replace H := Option.bind_eq_some_iff.mp H
 obtain ⟨t214, A60, H⟩ := H
 have A6 := Aside0.mk A60; clear A60
 replace H := Option.bind_eq_some_iff.mp H
 obtain ⟨t215, A70, H⟩ := H
 have A7 := Aside0.mk A70; clear A70
 by_cases c8 : t215 = true
 ·subst c8
  have H1 : (some 1) = some r := by rw [if_pos rfl] at H; exact H
  clear H; have H := H1; clear H1
  obtain rfl := Option.some.inj H
  go_enter Tryd.func42, Tryd.ntmps42
  go_wp2_with (first | ((with_reducible refine gate_callee (f := 47) rfl ?_); refine goesL_ (some 11) rfl rfl Tryd.func47 (by kernel_rfl) rfl #[.slice A0 l0.length c0, .int .i64 a1] rfl (by (try simp only [List.map_toArray, List.map_cons, List.map_nil]); first | done | rfl | (simp only [List.length_drop, List.length_take]; rfl)) ?_; (with_reducible refine (galleyref02_at.calls _ _ l0 a1 t211 _ ?side1 ?side2 A3.out).mono ?_); (case side1 => repeat (first | exact HR0.out | (with_reducible refine Kd.C_alloc ?_ _) | (with_reducible refine Kd.C_drewN ?_ _) | (with_reducible refine Kd.C_drew ?_))); (case side2 => exact HC0.out); rintro e w' ⟨rfl, ⟨nd, rfl⟩⟩; refine ⟨_, rfl, ?_⟩) | ((with_reducible refine gate_callee (f := 47) rfl ?_); refine goesL_ (some 15) rfl rfl Tryd.func47 (by kernel_rfl) rfl #[.slice A0 l0.length c0, .int .i64 (wrap64 (a1 + 1))] rfl (by (try simp only [List.map_toArray, List.map_cons, List.map_nil]); first | done | rfl | (simp only [List.length_drop, List.length_take]; rfl)) ?_; (with_reducible refine (galleyref02_at.calls _ _ l0 (wrap64 (a1 + 1)) t212 _ ?side1 ?side2 A4.out).mono ?_); (case side1 => repeat (first | exact HR0.out | (with_reducible refine Kd.C_alloc ?_ _) | (with_reducible refine Kd.C_drewN ?_ _) | (with_reducible refine Kd.C_drew ?_))); (case side2 => exact HC0.out); rintro e w' ⟨rfl, ⟨nd, rfl⟩⟩; refine ⟨_, rfl, ?_⟩) | ((with_reducible refine gate_callee (f := 47) rfl ?_); refine goesL_ (some 19) rfl rfl Tryd.func47 (by kernel_rfl) rfl #[.slice A0 l0.length c0, .int .i64 (wrap64 (a1 + 2))] rfl (by (try simp only [List.map_toArray, List.map_cons, List.map_nil]); first | done | rfl | (simp only [List.length_drop, List.length_take]; rfl)) ?_; (with_reducible refine (galleyref02_at.calls _ _ l0 (wrap64 (a1 + 2)) t213 _ ?side1 ?side2 A5.out).mono ?_); (case side1 => repeat (first | exact HR0.out | (with_reducible refine Kd.C_alloc ?_ _) | (with_reducible refine Kd.C_drewN ?_ _) | (with_reducible refine Kd.C_drew ?_))); (case side2 => exact HC0.out); rintro e w' ⟨rfl, ⟨nd, rfl⟩⟩; refine ⟨_, rfl, ?_⟩) | ((with_reducible refine gate_callee (f := 47) rfl ?_); refine goesL_ (some 23) rfl rfl Tryd.func47 (by kernel_rfl) rfl #[.slice A0 l0.length c0, .int .i64 (wrap64 (a1 + 3))] rfl (by (try simp only [List.map_toArray, List.map_cons, List.map_nil]); first | done | rfl | (simp only [List.length_drop, List.length_take]; rfl)) ?_; (with_reducible refine (galleyref02_at.calls _ _ l0 (wrap64 (a1 + 3)) t214 _ ?side1 ?side2 A6.out).mono ?_); (case side1 => repeat (first | exact HR0.out | (with_reducible refine Kd.C_alloc ?_ _) | (with_reducible refine Kd.C_drewN ?_ _) | (with_reducible refine Kd.C_drew ?_))); (case side2 => exact HC0.out); rintro e w' ⟨rfl, ⟨nd, rfl⟩⟩; refine ⟨_, rfl, ?_⟩) | ((with_reducible refine gate_callee (f := 48) rfl ?_); refine goesL_ (some 25) rfl rfl Tryd.func48 (by kernel_rfl) rfl #[.int .i64 t211, .int .i64 0, .int .i64 127] rfl (by (try simp only [List.map_toArray, List.map_cons, List.map_nil]); first | done | rfl | (simp only [List.length_drop, List.length_take]; rfl)) ?_; (with_reducible refine (galleyref02_in.calls t211 0 127 true _ A7.out).mono ?_); rintro e w' ⟨rfl, ⟨nd, rfl⟩⟩; refine ⟨_, rfl, ?_⟩))
  go_ret
  exact ⟨by first | rfl | (simp; done) | (simp [*]; done), by repeat (first | exact Drawn0.refl _ | apply Drawn0.step)⟩
 ·replace c8 := Bool.eq_false_iff.mpr c8
  subst c8
  have H1 : ((galleyref02_in.f t211 194 223).bind fun t216 => (if t216 = true then ((galleyref02_in.f t212 128 191).bind fun t217 => (galleyref02_Long.j0 k t211 t212 t213 t214 t217)) else (galleyref02_Long.j0 k t211 t212 t213 t214 false))) = some r := by rw [if_neg (show ¬ (false = true) by decide)] at H; exact H
  clear H; have H := H1; clear H1; have HC9 := Aside0.mk H; clear H
  go_enter Tryd.func42, Tryd.ntmps42
  go_upto_region 4 with (first | ((with_reducible refine gate_callee (f := 47) rfl ?_); refine goesL_ (some 11) rfl rfl Tryd.func47 (by kernel_rfl) rfl #[.slice A0 l0.length c0, .int .i64 a1] rfl (by (try simp only [List.map_toArray, List.map_cons, List.map_nil]); first | done | rfl | (simp only [List.length_drop, List.length_take]; rfl)) ?_; (with_reducible refine (galleyref02_at.calls _ _ l0 a1 t211 _ ?side1 ?side2 A3.out).mono ?_); (case side1 => repeat (first | exact HR0.out | (with_reducible refine Kd.C_alloc ?_ _) | (with_reducible refine Kd.C_drewN ?_ _) | (with_reducible refine Kd.C_drew ?_))); (case side2 => exact HC0.out); rintro e w' ⟨rfl, ⟨nd, rfl⟩⟩; refine ⟨_, rfl, ?_⟩) | ((with_reducible refine gate_callee (f := 47) rfl ?_); refine goesL_ (some 15) rfl rfl Tryd.func47 (by kernel_rfl) rfl #[.slice A0 l0.length c0, .int .i64 (wrap64 (a1 + 1))] rfl (by (try simp only [List.map_toArray, List.map_cons, List.map_nil]); first | done | rfl | (simp only [List.length_drop, List.length_take]; rfl)) ?_; (with_reducible refine (galleyref02_at.calls _ _ l0 (wrap64 (a1 + 1)) t212 _ ?side1 ?side2 A4.out).mono ?_); (case side1 => repeat (first | exact HR0.out | (with_reducible refine Kd.C_alloc ?_ _) | (with_reducible refine Kd.C_drewN ?_ _) | (with_reducible refine Kd.C_drew ?_))); (case side2 => exact HC0.out); rintro e w' ⟨rfl, ⟨nd, rfl⟩⟩; refine ⟨_, rfl, ?_⟩) | ((with_reducible refine gate_callee (f := 47) rfl ?_); refine goesL_ (some 19) rfl rfl Tryd.func47 (by kernel_rfl) rfl #[.slice A0 l0.length c0, .int .i64 (wrap64 (a1 + 2))] rfl (by (try simp only [List.map_toArray, List.map_cons, List.map_nil]); first | done | rfl | (simp only [List.length_drop, List.length_take]; rfl)) ?_; (with_reducible refine (galleyref02_at.calls _ _ l0 (wrap64 (a1 + 2)) t213 _ ?side1 ?side2 A5.out).mono ?_); (case side1 => repeat (first | exact HR0.out | (with_reducible refine Kd.C_alloc ?_ _) | (with_reducible refine Kd.C_drewN ?_ _) | (with_reducible refine Kd.C_drew ?_))); (case side2 => exact HC0.out); rintro e w' ⟨rfl, ⟨nd, rfl⟩⟩; refine ⟨_, rfl, ?_⟩) | ((with_reducible refine gate_callee (f := 47) rfl ?_); refine goesL_ (some 23) rfl rfl Tryd.func47 (by kernel_rfl) rfl #[.slice A0 l0.length c0, .int .i64 (wrap64 (a1 + 3))] rfl (by (try simp only [List.map_toArray, List.map_cons, List.map_nil]); first | done | rfl | (simp only [List.length_drop, List.length_take]; rfl)) ?_; (with_reducible refine (galleyref02_at.calls _ _ l0 (wrap64 (a1 + 3)) t214 _ ?side1 ?side2 A6.out).mono ?_); (case side1 => repeat (first | exact HR0.out | (with_reducible refine Kd.C_alloc ?_ _) | (with_reducible refine Kd.C_drewN ?_ _) | (with_reducible refine Kd.C_drew ?_))); (case side2 => exact HC0.out); rintro e w' ⟨rfl, ⟨nd, rfl⟩⟩; refine ⟨_, rfl, ?_⟩) | ((with_reducible refine gate_callee (f := 48) rfl ?_); refine goesL_ (some 25) rfl rfl Tryd.func48 (by kernel_rfl) rfl #[.int .i64 t211, .int .i64 0, .int .i64 127] rfl (by (try simp only [List.map_toArray, List.map_cons, List.map_nil]); first | done | rfl | (simp only [List.length_drop, List.length_take]; rfl)) ?_; (with_reducible refine (galleyref02_in.calls t211 0 127 false _ A7.out).mono ?_); rintro e w' ⟨rfl, ⟨nd, rfl⟩⟩; refine ⟨_, rfl, ?_⟩))
  (try simp only [Act.put, List.setIfInBounds_toArray, List.set_cons_zero, List.set_cons_succ])
  go_cut [31] (fun v31 wc => ∃ (kq : Nat) (x31_8 : Bool), v31 = .bool x31_8 ∧ Aside0 (galleyref02_Long.j0 kq t211 t212 t213 t214 x31_8 = some r) ∧ Aside0 (kq ≤ k) ∧ Drawn0 w wc)
  case first =>
   have H := HC9.out; clear HC9
   replace H := Option.bind_eq_some_iff.mp H
   obtain ⟨t216, A100, H⟩ := H
   have A10 := Aside0.mk A100; clear A100
   by_cases c11 : t216 = true
   ·subst c11
    have H1 : ((galleyref02_in.f t212 128 191).bind fun t217 => (galleyref02_Long.j0 k t211 t212 t213 t214 t217)) = some r := by rw [if_pos rfl] at H; exact H
    clear H; have H := H1; clear H1
    replace H := Option.bind_eq_some_iff.mp H
    obtain ⟨t217, A120, H⟩ := H
    have A12 := Aside0.mk A120; clear A120; have H' := Aside0.mk H; clear H
    go_wp2_with (first | ((with_reducible refine gate_callee (f := 48) rfl ?_); refine goesL_ (some 27) rfl rfl Tryd.func48 (by kernel_rfl) rfl #[.int .i64 t211, .int .i64 194, .int .i64 223] rfl (by (try simp only [List.map_toArray, List.map_cons, List.map_nil]); first | done | rfl | (simp only [List.length_drop, List.length_take]; rfl)) ?_; (with_reducible refine (galleyref02_in.calls t211 194 223 true _ A10.out).mono ?_); rintro e w' ⟨rfl, ⟨nd, rfl⟩⟩; refine ⟨_, rfl, ?_⟩) | (go_at_call 48; (with_reducible refine (galleyref02_in.calls t212 128 191 t217 _ A12.out).mono ?_); rintro e w' ⟨rfl, ⟨nd, rfl⟩⟩))
    go_meet
    case rel => exact ⟨_, (t217), (by first | rfl | (simp; done) | (simp [*]; done)), H', ⟨by first | omega | exact Nat.le_refl _⟩, by repeat (first | exact Drawn0.refl _ | apply Drawn0.step)⟩
   ·replace c11 := Bool.eq_false_iff.mpr c11
    subst c11
    have H1 : (galleyref02_Long.j0 k t211 t212 t213 t214 false) = some r := by rw [if_neg (show ¬ (false = true) by decide)] at H; exact H
    clear H; have H := H1; clear H1; have H' := Aside0.mk H; clear H
    go_wp2_with (first | ((with_reducible refine gate_callee (f := 48) rfl ?_); refine goesL_ (some 27) rfl rfl Tryd.func48 (by kernel_rfl) rfl #[.int .i64 t211, .int .i64 194, .int .i64 223] rfl (by (try simp only [List.map_toArray, List.map_cons, List.map_nil]); first | done | rfl | (simp only [List.length_drop, List.length_take]; rfl)) ?_; (with_reducible refine (galleyref02_in.calls t211 194 223 false _ A10.out).mono ?_); rintro e w' ⟨rfl, ⟨nd, rfl⟩⟩; refine ⟨_, rfl, ?_⟩))
    go_meet
    case rel => exact ⟨_, (false), (by first | rfl | (simp; done) | (simp [*]; done)), H', ⟨by first | omega | exact Nat.le_refl _⟩, by repeat (first | exact Drawn0.refl _ | apply Drawn0.step)⟩
  case rest =>
   clear HC9; (try clear c1); (try clear p2); (try clear c4); (try clear p6); (try clear c8); (try clear c11)
   obtain ⟨kq, x31_8, rfl, HA, HJ8, ⟨mc8, rfl⟩⟩ := hcut
   cases kq with
   | zero => exact absurd HA.out (by simp [galleyref02_Long.j0])
   | succ kj8 =>
    have H := HA.out; clear HA
    simp only [galleyref02_Long.j0] at H
    by_cases c13 : x31_8 = true
    ·subst c13
     have H1 : (some 2) = some r := by rw [if_pos rfl] at H; exact H
     clear H; have H := H1; clear H1
     obtain rfl := Option.some.inj H
     go_wp2
     go_ret
     exact ⟨by first | rfl | (simp; done) | (simp [*]; done), by repeat (first | exact Drawn0.refl _ | apply Drawn0.step)⟩
    ·replace c13 := Bool.eq_false_iff.mpr c13
     subst c13
     have H1 : ((galleyref02_in.f t213 128 191).bind fun t218 => (if t218 = true then (if t211 = 224 then ((galleyref02_in.f t212 160 191).bind fun t219 => (if t219 = true then (some 3) else ((galleyref02_in.f t211 225 236).bind fun t220 => (if t220 = true then ((galleyref02_in.f t212 128 191).bind fun t221 => (if t221 = true then (some 3) else (if t211 = 237 then ((galleyref02_in.f t212 128 159).bind fun t222 => (if t222 = true then (some 3) else ((galleyref02_in.f t211 238 239).bind fun t223 => (if t223 = true then ((galleyref02_in.f t212 128 191).bind fun t224 => (if t224 = true then (some 3) else (galleyref02_Long.j1 kj8 t211 t212 t213 t214))) else (galleyref02_Long.j1 kj8 t211 t212 t213 t214))))) else ((galleyref02_in.f t211 238 239).bind fun t225 => (if t225 = true then ((galleyref02_in.f t212 128 191).bind fun t226 => (if t226 = true then (some 3) else (galleyref02_Long.j1 kj8 t211 t212 t213 t214))) else (galleyref02_Long.j1 kj8 t211 t212 t213 t214)))))) else (if t211 = 237 then ((galleyref02_in.f t212 128 159).bind fun t227 => (if t227 = true then (some 3) else ((galleyref02_in.f t211 238 239).bind fun t228 => (if t228 = true then ((galleyref02_in.f t212 128 191).bind fun t229 => (if t229 = true then (some 3) else (galleyref02_Long.j1 kj8 t211 t212 t213 t214))) else (galleyref02_Long.j1 kj8 t211 t212 t213 t214))))) else ((galleyref02_in.f t211 238 239).bind fun t230 => (if t230 = true then ((galleyref02_in.f t212 128 191).bind fun t231 => (if t231 = true then (some 3) else (galleyref02_Long.j1 kj8 t211 t212 t213 t214))) else (galleyref02_Long.j1 kj8 t211 t212 t213 t214)))))))) else ((galleyref02_in.f t211 225 236).bind fun t232 => (if t232 = true then ((galleyref02_in.f t212 128 191).bind fun t233 => (if t233 = true then (some 3) else (if t211 = 237 then ((galleyref02_in.f t212 128 159).bind fun t234 => (if t234 = true then (some 3) else ((galleyref02_in.f t211 238 239).bind fun t235 => (if t235 = true then ((galleyref02_in.f t212 128 191).bind fun t236 => (if t236 = true then (some 3) else (galleyref02_Long.j1 kj8 t211 t212 t213 t214))) else (galleyref02_Long.j1 kj8 t211 t212 t213 t214))))) else ((galleyref02_in.f t211 238 239).bind fun t237 => (if t237 = true then ((galleyref02_in.f t212 128 191).bind fun t238 => (if t238 = true then (some 3) else (galleyref02_Long.j1 kj8 t211 t212 t213 t214))) else (galleyref02_Long.j1 kj8 t211 t212 t213 t214)))))) else (if t211 = 237 then ((galleyref02_in.f t212 128 159).bind fun t239 => (if t239 = true then (some 3) else ((galleyref02_in.f t211 238 239).bind fun t240 => (if t240 = true then ((galleyref02_in.f t212 128 191).bind fun t241 => (if t241 = true then (some 3) else (galleyref02_Long.j1 kj8 t211 t212 t213 t214))) else (galleyref02_Long.j1 kj8 t211 t212 t213 t214))))) else ((galleyref02_in.f t211 238 239).bind fun t242 => (if t242 = true then ((galleyref02_in.f t212 128 191).bind fun t243 => (if t243 = true then (some 3) else (galleyref02_Long.j1 kj8 t211 t212 t213 t214))) else (galleyref02_Long.j1 kj8 t211 t212 t213 t214))))))) else (galleyref02_Long.j1 kj8 t211 t212 t213 t214))) = some r := by rw [if_neg (show ¬ (false = true) by decide)] at H; exact H
     clear H; have H := H1; clear H1
     replace H := Option.bind_eq_some_iff.mp H
     obtain ⟨t218, A140, H⟩ := H
     have A14 := Aside0.mk A140; clear A140; have HC15 := Aside0.mk H; clear H
     go_upto_if 33 with (first | ((with_reducible refine gate_callee (f := 48) rfl ?_); refine goesL_ (some 33) rfl rfl Tryd.func48 (by kernel_rfl) rfl #[.int .i64 t213, .int .i64 128, .int .i64 191] rfl (by (try simp only [List.map_toArray, List.map_cons, List.map_nil]); first | done | rfl | (simp only [List.length_drop, List.length_take]; rfl)) ?_; (with_reducible refine (galleyref02_in.calls t213 128 191 t218 _ A14.out).mono ?_); rintro e w' ⟨rfl, ⟨nd, rfl⟩⟩; refine ⟨_, rfl, ?_⟩))
     (try simp only [Act.put, List.setIfInBounds_toArray, List.set_cons_zero, List.set_cons_succ])
     go_cut [] (fun wc => ∃ (kq : Nat), Aside0 (galleyref02_Long.j1 kq t211 t212 t213 t214 = some r) ∧ Aside0 (kq ≤ kj8) ∧ Drawn0 w wc)
     case first =>
      have H := HC15.out; clear HC15
      by_cases c16 : t218 = true
      ·subst c16
       have H1 : (if t211 = 224 then ((galleyref02_in.f t212 160 191).bind fun t219 => (if t219 = true then (some 3) else ((galleyref02_in.f t211 225 236).bind fun t220 => (if t220 = true then ((galleyref02_in.f t212 128 191).bind fun t221 => (if t221 = true then (some 3) else (if t211 = 237 then ((galleyref02_in.f t212 128 159).bind fun t222 => (if t222 = true then (some 3) else ((galleyref02_in.f t211 238 239).bind fun t223 => (if t223 = true then ((galleyref02_in.f t212 128 191).bind fun t224 => (if t224 = true then (some 3) else (galleyref02_Long.j1 kj8 t211 t212 t213 t214))) else (galleyref02_Long.j1 kj8 t211 t212 t213 t214))))) else ((galleyref02_in.f t211 238 239).bind fun t225 => (if t225 = true then ((galleyref02_in.f t212 128 191).bind fun t226 => (if t226 = true then (some 3) else (galleyref02_Long.j1 kj8 t211 t212 t213 t214))) else (galleyref02_Long.j1 kj8 t211 t212 t213 t214)))))) else (if t211 = 237 then ((galleyref02_in.f t212 128 159).bind fun t227 => (if t227 = true then (some 3) else ((galleyref02_in.f t211 238 239).bind fun t228 => (if t228 = true then ((galleyref02_in.f t212 128 191).bind fun t229 => (if t229 = true then (some 3) else (galleyref02_Long.j1 kj8 t211 t212 t213 t214))) else (galleyref02_Long.j1 kj8 t211 t212 t213 t214))))) else ((galleyref02_in.f t211 238 239).bind fun t230 => (if t230 = true then ((galleyref02_in.f t212 128 191).bind fun t231 => (if t231 = true then (some 3) else (galleyref02_Long.j1 kj8 t211 t212 t213 t214))) else (galleyref02_Long.j1 kj8 t211 t212 t213 t214)))))))) else ((galleyref02_in.f t211 225 236).bind fun t232 => (if t232 = true then ((galleyref02_in.f t212 128 191).bind fun t233 => (if t233 = true then (some 3) else (if t211 = 237 then ((galleyref02_in.f t212 128 159).bind fun t234 => (if t234 = true then (some 3) else ((galleyref02_in.f t211 238 239).bind fun t235 => (if t235 = true then ((galleyref02_in.f t212 128 191).bind fun t236 => (if t236 = true then (some 3) else (galleyref02_Long.j1 kj8 t211 t212 t213 t214))) else (galleyref02_Long.j1 kj8 t211 t212 t213 t214))))) else ((galleyref02_in.f t211 238 239).bind fun t237 => (if t237 = true then ((galleyref02_in.f t212 128 191).bind fun t238 => (if t238 = true then (some 3) else (galleyref02_Long.j1 kj8 t211 t212 t213 t214))) else (galleyref02_Long.j1 kj8 t211 t212 t213 t214)))))) else (if t211 = 237 then ((galleyref02_in.f t212 128 159).bind fun t239 => (if t239 = true then (some 3) else ((galleyref02_in.f t211 238 239).bind fun t240 => (if t240 = true then ((galleyref02_in.f t212 128 191).bind fun t241 => (if t241 = true then (some 3) else (galleyref02_Long.j1 kj8 t211 t212 t213 t214))) else (galleyref02_Long.j1 kj8 t211 t212 t213 t214))))) else ((galleyref02_in.f t211 238 239).bind fun t242 => (if t242 = true then ((galleyref02_in.f t212 128 191).bind fun t243 => (if t243 = true then (some 3) else (galleyref02_Long.j1 kj8 t211 t212 t213 t214))) else (galleyref02_Long.j1 kj8 t211 t212 t213 t214))))))) = some r := by rw [if_pos rfl] at H; exact H
       clear H; have H := H1; clear H1
       by_cases c17 : t211 = 224
       ·rw [if_pos c17] at H
        have c17b0 : (t211 == 224) = true := beq_iff_eq.mpr c17
        have c17b1 : (t211 != 224) = false := bne_eq_false_iff_eq.mpr c17
        clear c17
        (first | rw [c17b0] | (simp only [i64_w, i32_w]; rw [c17b0]) | skip)
        replace H := Option.bind_eq_some_iff.mp H
        obtain ⟨t219, A180, H⟩ := H
        have A18 := Aside0.mk A180; clear A180
        by_cases c19 : t219 = true
        ·subst c19
         have H1 : (some 3) = some r := by rw [if_pos rfl] at H; exact H
         clear H; have H := H1; clear H1
         obtain rfl := Option.some.inj H
         go_wp2_with (first | (go_at_call 48; (with_reducible refine (galleyref02_in.calls t212 160 191 true _ A18.out).mono ?_); rintro e w' ⟨rfl, ⟨nd, rfl⟩⟩))
         go_ret
         exact ⟨by first | rfl | (simp; done) | (simp [*]; done), by repeat (first | exact Drawn0.refl _ | apply Drawn0.step)⟩
        ·replace c19 := Bool.eq_false_iff.mpr c19
         subst c19
         have H1 : ((galleyref02_in.f t211 225 236).bind fun t220 => (if t220 = true then ((galleyref02_in.f t212 128 191).bind fun t221 => (if t221 = true then (some 3) else (if t211 = 237 then ((galleyref02_in.f t212 128 159).bind fun t222 => (if t222 = true then (some 3) else ((galleyref02_in.f t211 238 239).bind fun t223 => (if t223 = true then ((galleyref02_in.f t212 128 191).bind fun t224 => (if t224 = true then (some 3) else (galleyref02_Long.j1 kj8 t211 t212 t213 t214))) else (galleyref02_Long.j1 kj8 t211 t212 t213 t214))))) else ((galleyref02_in.f t211 238 239).bind fun t225 => (if t225 = true then ((galleyref02_in.f t212 128 191).bind fun t226 => (if t226 = true then (some 3) else (galleyref02_Long.j1 kj8 t211 t212 t213 t214))) else (galleyref02_Long.j1 kj8 t211 t212 t213 t214)))))) else (if t211 = 237 then ((galleyref02_in.f t212 128 159).bind fun t227 => (if t227 = true then (some 3) else ((galleyref02_in.f t211 238 239).bind fun t228 => (if t228 = true then ((galleyref02_in.f t212 128 191).bind fun t229 => (if t229 = true then (some 3) else (galleyref02_Long.j1 kj8 t211 t212 t213 t214))) else (galleyref02_Long.j1 kj8 t211 t212 t213 t214))))) else ((galleyref02_in.f t211 238 239).bind fun t230 => (if t230 = true then ((galleyref02_in.f t212 128 191).bind fun t231 => (if t231 = true then (some 3) else (galleyref02_Long.j1 kj8 t211 t212 t213 t214))) else (galleyref02_Long.j1 kj8 t211 t212 t213 t214)))))) = some r := by rw [if_neg (show ¬ (false = true) by decide)] at H; exact H
         clear H; have H := H1; clear H1
         replace H := Option.bind_eq_some_iff.mp H
         obtain ⟨t220, A200, H⟩ := H
         have A20 := Aside0.mk A200; clear A200
         by_cases c21 : t220 = true
         ·subst c21
          have H1 : ((galleyref02_in.f t212 128 191).bind fun t221 => (if t221 = true then (some 3) else (if t211 = 237 then ((galleyref02_in.f t212 128 159).bind fun t222 => (if t222 = true then (some 3) else ((galleyref02_in.f t211 238 239).bind fun t223 => (if t223 = true then ((galleyref02_in.f t212 128 191).bind fun t224 => (if t224 = true then (some 3) else (galleyref02_Long.j1 kj8 t211 t212 t213 t214))) else (galleyref02_Long.j1 kj8 t211 t212 t213 t214))))) else ((galleyref02_in.f t211 238 239).bind fun t225 => (if t225 = true then ((galleyref02_in.f t212 128 191).bind fun t226 => (if t226 = true then (some 3) else (galleyref02_Long.j1 kj8 t211 t212 t213 t214))) else (galleyref02_Long.j1 kj8 t211 t212 t213 t214)))))) = some r := by rw [if_pos rfl] at H; exact H
          clear H; have H := H1; clear H1
          replace H := Option.bind_eq_some_iff.mp H
          obtain ⟨t221, A220, H⟩ := H
          have A22 := Aside0.mk A220; clear A220
          by_cases c23 : t221 = true
          ·subst c23
           have H1 : (some 3) = some r := by rw [if_pos rfl] at H; exact H
           clear H; have H := H1; clear H1
           obtain rfl := Option.some.inj H
           go_wp2_with (first | (go_at_call 48; (with_reducible refine (galleyref02_in.calls t212 160 191 false _ A18.out).mono ?_); rintro e w' ⟨rfl, ⟨nd, rfl⟩⟩) | (go_at_call 48; (with_reducible refine (galleyref02_in.calls t211 225 236 true _ A20.out).mono ?_); rintro e w' ⟨rfl, ⟨nd, rfl⟩⟩) | (go_at_call 48; (with_reducible refine (galleyref02_in.calls t212 128 191 true _ A22.out).mono ?_); rintro e w' ⟨rfl, ⟨nd, rfl⟩⟩))
           go_ret
           exact ⟨by first | rfl | (simp; done) | (simp [*]; done), by repeat (first | exact Drawn0.refl _ | apply Drawn0.step)⟩
          ·replace c23 := Bool.eq_false_iff.mpr c23
           subst c23
           have H1 : (if t211 = 237 then ((galleyref02_in.f t212 128 159).bind fun t222 => (if t222 = true then (some 3) else ((galleyref02_in.f t211 238 239).bind fun t223 => (if t223 = true then ((galleyref02_in.f t212 128 191).bind fun t224 => (if t224 = true then (some 3) else (galleyref02_Long.j1 kj8 t211 t212 t213 t214))) else (galleyref02_Long.j1 kj8 t211 t212 t213 t214))))) else ((galleyref02_in.f t211 238 239).bind fun t225 => (if t225 = true then ((galleyref02_in.f t212 128 191).bind fun t226 => (if t226 = true then (some 3) else (galleyref02_Long.j1 kj8 t211 t212 t213 t214))) else (galleyref02_Long.j1 kj8 t211 t212 t213 t214)))) = some r := by rw [if_neg (show ¬ (false = true) by decide)] at H; exact H
           clear H; have H := H1; clear H1
           by_cases c24 : t211 = 237
           ·rw [if_pos c24] at H
            have c24b0 : (t211 == 237) = true := beq_iff_eq.mpr c24
            have c24b1 : (t211 != 237) = false := bne_eq_false_iff_eq.mpr c24
            clear c24
            replace H := Option.bind_eq_some_iff.mp H
            obtain ⟨t222, A250, H⟩ := H
            have A25 := Aside0.mk A250; clear A250
            by_cases c26 : t222 = true
            ·subst c26
             have H1 : (some 3) = some r := by rw [if_pos rfl] at H; exact H
             clear H; have H := H1; clear H1
             obtain rfl := Option.some.inj H
             go_wp2_with (first | (go_at_call 48; (with_reducible refine (galleyref02_in.calls t212 160 191 false _ A18.out).mono ?_); rintro e w' ⟨rfl, ⟨nd, rfl⟩⟩) | (go_at_call 48; (with_reducible refine (galleyref02_in.calls t211 225 236 true _ A20.out).mono ?_); rintro e w' ⟨rfl, ⟨nd, rfl⟩⟩) | (go_at_call 48; (with_reducible refine (galleyref02_in.calls t212 128 191 false _ A22.out).mono ?_); rintro e w' ⟨rfl, ⟨nd, rfl⟩⟩) | (go_at_call 48; (with_reducible refine (galleyref02_in.calls t212 128 159 true _ A25.out).mono ?_); rintro e w' ⟨rfl, ⟨nd, rfl⟩⟩))
             go_ret
             exact ⟨by first | rfl | (simp; done) | (simp [*]; done), by repeat (first | exact Drawn0.refl _ | apply Drawn0.step)⟩
            ·replace c26 := Bool.eq_false_iff.mpr c26
             subst c26
             have H1 : ((galleyref02_in.f t211 238 239).bind fun t223 => (if t223 = true then ((galleyref02_in.f t212 128 191).bind fun t224 => (if t224 = true then (some 3) else (galleyref02_Long.j1 kj8 t211 t212 t213 t214))) else (galleyref02_Long.j1 kj8 t211 t212 t213 t214))) = some r := by rw [if_neg (show ¬ (false = true) by decide)] at H; exact H
             clear H; have H := H1; clear H1
             replace H := Option.bind_eq_some_iff.mp H
             obtain ⟨t223, A270, H⟩ := H
             have A27 := Aside0.mk A270; clear A270
             by_cases c28 : t223 = true
             ·subst c28
              have H1 : ((galleyref02_in.f t212 128 191).bind fun t224 => (if t224 = true then (some 3) else (galleyref02_Long.j1 kj8 t211 t212 t213 t214))) = some r := by rw [if_pos rfl] at H; exact H
              clear H; have H := H1; clear H1
              replace H := Option.bind_eq_some_iff.mp H
              obtain ⟨t224, A290, H⟩ := H
              have A29 := Aside0.mk A290; clear A290
              by_cases c30 : t224 = true
              ·subst c30
               have H1 : (some 3) = some r := by rw [if_pos rfl] at H; exact H
               clear H; have H := H1; clear H1
               obtain rfl := Option.some.inj H
               exact absurd (Option.some.inj (A29.out.symm.trans A22.out)) (by decide)
              ·replace c30 := Bool.eq_false_iff.mpr c30
               subst c30
               have H1 : (galleyref02_Long.j1 kj8 t211 t212 t213 t214) = some r := by rw [if_neg (show ¬ (false = true) by decide)] at H; exact H
               clear H; have H := H1; clear H1; have H' := Aside0.mk H; clear H
               go_wp2_with (first | (go_at_call 48; (with_reducible refine (galleyref02_in.calls t212 160 191 false _ A18.out).mono ?_); rintro e w' ⟨rfl, ⟨nd, rfl⟩⟩) | (go_at_call 48; (with_reducible refine (galleyref02_in.calls t211 225 236 true _ A20.out).mono ?_); rintro e w' ⟨rfl, ⟨nd, rfl⟩⟩) | (go_at_call 48; (with_reducible refine (galleyref02_in.calls t212 128 191 false _ A22.out).mono ?_); rintro e w' ⟨rfl, ⟨nd, rfl⟩⟩) | (go_at_call 48; (with_reducible refine (galleyref02_in.calls t212 128 159 false _ A25.out).mono ?_); rintro e w' ⟨rfl, ⟨nd, rfl⟩⟩) | (go_at_call 48; (with_reducible refine (galleyref02_in.calls t211 238 239 true _ A27.out).mono ?_); rintro e w' ⟨rfl, ⟨nd, rfl⟩⟩) | (go_at_call 48; (with_reducible refine (galleyref02_in.calls t212 128 191 false _ A29.out).mono ?_); rintro e w' ⟨rfl, ⟨nd, rfl⟩⟩))
               go_meet
               case rel => exact ⟨_, H', ⟨by have := HJ8.out; first | omega | exact Nat.le_refl _⟩, by repeat (first | exact Drawn0.refl _ | apply Drawn0.step)⟩
             ·replace c28 := Bool.eq_false_iff.mpr c28
              subst c28
              have H1 : (galleyref02_Long.j1 kj8 t211 t212 t213 t214) = some r := by rw [if_neg (show ¬ (false = true) by decide)] at H; exact H
              clear H; have H := H1; clear H1; have H' := Aside0.mk H; clear H
              go_wp2_with (first | (go_at_call 48; (with_reducible refine (galleyref02_in.calls t212 160 191 false _ A18.out).mono ?_); rintro e w' ⟨rfl, ⟨nd, rfl⟩⟩) | (go_at_call 48; (with_reducible refine (galleyref02_in.calls t211 225 236 true _ A20.out).mono ?_); rintro e w' ⟨rfl, ⟨nd, rfl⟩⟩) | (go_at_call 48; (with_reducible refine (galleyref02_in.calls t212 128 191 false _ A22.out).mono ?_); rintro e w' ⟨rfl, ⟨nd, rfl⟩⟩) | (go_at_call 48; (with_reducible refine (galleyref02_in.calls t212 128 159 false _ A25.out).mono ?_); rintro e w' ⟨rfl, ⟨nd, rfl⟩⟩) | (go_at_call 48; (with_reducible refine (galleyref02_in.calls t211 238 239 false _ A27.out).mono ?_); rintro e w' ⟨rfl, ⟨nd, rfl⟩⟩))
              go_meet
              case rel => exact ⟨_, H', ⟨by have := HJ8.out; first | omega | exact Nat.le_refl _⟩, by repeat (first | exact Drawn0.refl _ | apply Drawn0.step)⟩
           ·rw [if_neg c24] at H
            have c24b0 : (t211 == 237) = false := beq_eq_false_iff_ne.mpr c24
            have c24b1 : (t211 != 237) = true := bne_iff_ne.mpr c24
            replace H := Option.bind_eq_some_iff.mp H
            obtain ⟨t225, A310, H⟩ := H
            have A31 := Aside0.mk A310; clear A310
            by_cases c32 : t225 = true
            ·subst c32
             have H1 : ((galleyref02_in.f t212 128 191).bind fun t226 => (if t226 = true then (some 3) else (galleyref02_Long.j1 kj8 t211 t212 t213 t214))) = some r := by rw [if_pos rfl] at H; exact H
             clear H; have H := H1; clear H1
             replace H := Option.bind_eq_some_iff.mp H
             obtain ⟨t226, A330, H⟩ := H
             have A33 := Aside0.mk A330; clear A330
             by_cases c34 : t226 = true
             ·subst c34
              have H1 : (some 3) = some r := by rw [if_pos rfl] at H; exact H
              clear H; have H := H1; clear H1
              obtain rfl := Option.some.inj H
              exact absurd (Option.some.inj (A33.out.symm.trans A22.out)) (by decide)
             ·replace c34 := Bool.eq_false_iff.mpr c34
              subst c34
              have H1 : (galleyref02_Long.j1 kj8 t211 t212 t213 t214) = some r := by rw [if_neg (show ¬ (false = true) by decide)] at H; exact H
              clear H; have H := H1; clear H1; have H' := Aside0.mk H; clear H
              go_wp2_with (first | (go_at_call 48; (with_reducible refine (galleyref02_in.calls t212 160 191 false _ A18.out).mono ?_); rintro e w' ⟨rfl, ⟨nd, rfl⟩⟩) | (go_at_call 48; (with_reducible refine (galleyref02_in.calls t211 225 236 true _ A20.out).mono ?_); rintro e w' ⟨rfl, ⟨nd, rfl⟩⟩) | (go_at_call 48; (with_reducible refine (galleyref02_in.calls t212 128 191 false _ A22.out).mono ?_); rintro e w' ⟨rfl, ⟨nd, rfl⟩⟩) | (go_at_call 48; (with_reducible refine (galleyref02_in.calls t211 238 239 true _ A31.out).mono ?_); rintro e w' ⟨rfl, ⟨nd, rfl⟩⟩) | (go_at_call 48; (with_reducible refine (galleyref02_in.calls t212 128 191 false _ A33.out).mono ?_); rintro e w' ⟨rfl, ⟨nd, rfl⟩⟩))
              go_meet
              case rel => exact ⟨_, H', ⟨by have := HJ8.out; first | omega | exact Nat.le_refl _⟩, by repeat (first | exact Drawn0.refl _ | apply Drawn0.step)⟩
            ·replace c32 := Bool.eq_false_iff.mpr c32
             subst c32
             have H1 : (galleyref02_Long.j1 kj8 t211 t212 t213 t214) = some r := by rw [if_neg (show ¬ (false = true) by decide)] at H; exact H
             clear H; have H := H1; clear H1; have H' := Aside0.mk H; clear H
             go_wp2_with (first | (go_at_call 48; (with_reducible refine (galleyref02_in.calls t212 160 191 false _ A18.out).mono ?_); rintro e w' ⟨rfl, ⟨nd, rfl⟩⟩) | (go_at_call 48; (with_reducible refine (galleyref02_in.calls t211 225 236 true _ A20.out).mono ?_); rintro e w' ⟨rfl, ⟨nd, rfl⟩⟩) | (go_at_call 48; (with_reducible refine (galleyref02_in.calls t212 128 191 false _ A22.out).mono ?_); rintro e w' ⟨rfl, ⟨nd, rfl⟩⟩) | (go_at_call 48; (with_reducible refine (galleyref02_in.calls t211 238 239 false _ A31.out).mono ?_); rintro e w' ⟨rfl, ⟨nd, rfl⟩⟩))
             go_meet
             case rel => exact ⟨_, H', ⟨by have := HJ8.out; first | omega | exact Nat.le_refl _⟩, by repeat (first | exact Drawn0.refl _ | apply Drawn0.step)⟩
         ·replace c21 := Bool.eq_false_iff.mpr c21
          subst c21
          have H1 : (if t211 = 237 then ((galleyref02_in.f t212 128 159).bind fun t227 => (if t227 = true then (some 3) else ((galleyref02_in.f t211 238 239).bind fun t228 => (if t228 = true then ((galleyref02_in.f t212 128 191).bind fun t229 => (if t229 = true then (some 3) else (galleyref02_Long.j1 kj8 t211 t212 t213 t214))) else (galleyref02_Long.j1 kj8 t211 t212 t213 t214))))) else ((galleyref02_in.f t211 238 239).bind fun t230 => (if t230 = true then ((galleyref02_in.f t212 128 191).bind fun t231 => (if t231 = true then (some 3) else (galleyref02_Long.j1 kj8 t211 t212 t213 t214))) else (galleyref02_Long.j1 kj8 t211 t212 t213 t214)))) = some r := by rw [if_neg (show ¬ (false = true) by decide)] at H; exact H
          clear H; have H := H1; clear H1
          by_cases c35 : t211 = 237
          ·rw [if_pos c35] at H
           have c35b0 : (t211 == 237) = true := beq_iff_eq.mpr c35
           have c35b1 : (t211 != 237) = false := bne_eq_false_iff_eq.mpr c35
           clear c35
           replace H := Option.bind_eq_some_iff.mp H
           obtain ⟨t227, A360, H⟩ := H
           have A36 := Aside0.mk A360; clear A360
           by_cases c37 : t227 = true
           ·subst c37
            have H1 : (some 3) = some r := by rw [if_pos rfl] at H; exact H
            clear H; have H := H1; clear H1
            obtain rfl := Option.some.inj H
            go_wp2_with (first | (go_at_call 48; (with_reducible refine (galleyref02_in.calls t212 160 191 false _ A18.out).mono ?_); rintro e w' ⟨rfl, ⟨nd, rfl⟩⟩) | (go_at_call 48; (with_reducible refine (galleyref02_in.calls t211 225 236 false _ A20.out).mono ?_); rintro e w' ⟨rfl, ⟨nd, rfl⟩⟩) | (go_at_call 48; (with_reducible refine (galleyref02_in.calls t212 128 159 true _ A36.out).mono ?_); rintro e w' ⟨rfl, ⟨nd, rfl⟩⟩))
            go_ret
            exact ⟨by first | rfl | (simp; done) | (simp [*]; done), by repeat (first | exact Drawn0.refl _ | apply Drawn0.step)⟩
           ·replace c37 := Bool.eq_false_iff.mpr c37
            subst c37
            have H1 : ((galleyref02_in.f t211 238 239).bind fun t228 => (if t228 = true then ((galleyref02_in.f t212 128 191).bind fun t229 => (if t229 = true then (some 3) else (galleyref02_Long.j1 kj8 t211 t212 t213 t214))) else (galleyref02_Long.j1 kj8 t211 t212 t213 t214))) = some r := by rw [if_neg (show ¬ (false = true) by decide)] at H; exact H
            clear H; have H := H1; clear H1
            replace H := Option.bind_eq_some_iff.mp H
            obtain ⟨t228, A380, H⟩ := H
            have A38 := Aside0.mk A380; clear A380
            by_cases c39 : t228 = true
            ·subst c39
             have H1 : ((galleyref02_in.f t212 128 191).bind fun t229 => (if t229 = true then (some 3) else (galleyref02_Long.j1 kj8 t211 t212 t213 t214))) = some r := by rw [if_pos rfl] at H; exact H
             clear H; have H := H1; clear H1
             replace H := Option.bind_eq_some_iff.mp H
             obtain ⟨t229, A400, H⟩ := H
             have A40 := Aside0.mk A400; clear A400
             by_cases c41 : t229 = true
             ·subst c41
              have H1 : (some 3) = some r := by rw [if_pos rfl] at H; exact H
              clear H; have H := H1; clear H1
              obtain rfl := Option.some.inj H
              go_wp2_with (first | (go_at_call 48; (with_reducible refine (galleyref02_in.calls t212 160 191 false _ A18.out).mono ?_); rintro e w' ⟨rfl, ⟨nd, rfl⟩⟩) | (go_at_call 48; (with_reducible refine (galleyref02_in.calls t211 225 236 false _ A20.out).mono ?_); rintro e w' ⟨rfl, ⟨nd, rfl⟩⟩) | (go_at_call 48; (with_reducible refine (galleyref02_in.calls t212 128 159 false _ A36.out).mono ?_); rintro e w' ⟨rfl, ⟨nd, rfl⟩⟩) | (go_at_call 48; (with_reducible refine (galleyref02_in.calls t211 238 239 true _ A38.out).mono ?_); rintro e w' ⟨rfl, ⟨nd, rfl⟩⟩) | (go_at_call 48; (with_reducible refine (galleyref02_in.calls t212 128 191 true _ A40.out).mono ?_); rintro e w' ⟨rfl, ⟨nd, rfl⟩⟩))
              go_ret
              exact ⟨by first | rfl | (simp; done) | (simp [*]; done), by repeat (first | exact Drawn0.refl _ | apply Drawn0.step)⟩
             ·replace c41 := Bool.eq_false_iff.mpr c41
              subst c41
              have H1 : (galleyref02_Long.j1 kj8 t211 t212 t213 t214) = some r := by rw [if_neg (show ¬ (false = true) by decide)] at H; exact H
              clear H; have H := H1; clear H1; have H' := Aside0.mk H; clear H
              go_wp2_with (first | (go_at_call 48; (with_reducible refine (galleyref02_in.calls t212 160 191 false _ A18.out).mono ?_); rintro e w' ⟨rfl, ⟨nd, rfl⟩⟩) | (go_at_call 48; (with_reducible refine (galleyref02_in.calls t211 225 236 false _ A20.out).mono ?_); rintro e w' ⟨rfl, ⟨nd, rfl⟩⟩) | (go_at_call 48; (with_reducible refine (galleyref02_in.calls t212 128 159 false _ A36.out).mono ?_); rintro e w' ⟨rfl, ⟨nd, rfl⟩⟩) | (go_at_call 48; (with_reducible refine (galleyref02_in.calls t211 238 239 true _ A38.out).mono ?_); rintro e w' ⟨rfl, ⟨nd, rfl⟩⟩) | (go_at_call 48; (with_reducible refine (galleyref02_in.calls t212 128 191 false _ A40.out).mono ?_); rintro e w' ⟨rfl, ⟨nd, rfl⟩⟩))
              go_meet
              case rel => exact ⟨_, H', ⟨by have := HJ8.out; first | omega | exact Nat.le_refl _⟩, by repeat (first | exact Drawn0.refl _ | apply Drawn0.step)⟩
            ·replace c39 := Bool.eq_false_iff.mpr c39
             subst c39
             have H1 : (galleyref02_Long.j1 kj8 t211 t212 t213 t214) = some r := by rw [if_neg (show ¬ (false = true) by decide)] at H; exact H
             clear H; have H := H1; clear H1; have H' := Aside0.mk H; clear H
             go_wp2_with (first | (go_at_call 48; (with_reducible refine (galleyref02_in.calls t212 160 191 false _ A18.out).mono ?_); rintro e w' ⟨rfl, ⟨nd, rfl⟩⟩) | (go_at_call 48; (with_reducible refine (galleyref02_in.calls t211 225 236 false _ A20.out).mono ?_); rintro e w' ⟨rfl, ⟨nd, rfl⟩⟩) | (go_at_call 48; (with_reducible refine (galleyref02_in.calls t212 128 159 false _ A36.out).mono ?_); rintro e w' ⟨rfl, ⟨nd, rfl⟩⟩) | (go_at_call 48; (with_reducible refine (galleyref02_in.calls t211 238 239 false _ A38.out).mono ?_); rintro e w' ⟨rfl, ⟨nd, rfl⟩⟩))
             go_meet
             case rel => exact ⟨_, H', ⟨by have := HJ8.out; first | omega | exact Nat.le_refl _⟩, by repeat (first | exact Drawn0.refl _ | apply Drawn0.step)⟩
          ·rw [if_neg c35] at H
           have c35b0 : (t211 == 237) = false := beq_eq_false_iff_ne.mpr c35
           have c35b1 : (t211 != 237) = true := bne_iff_ne.mpr c35
           replace H := Option.bind_eq_some_iff.mp H
           obtain ⟨t230, A420, H⟩ := H
           have A42 := Aside0.mk A420; clear A420
           by_cases c43 : t230 = true
           ·subst c43
            have H1 : ((galleyref02_in.f t212 128 191).bind fun t231 => (if t231 = true then (some 3) else (galleyref02_Long.j1 kj8 t211 t212 t213 t214))) = some r := by rw [if_pos rfl] at H; exact H
            clear H; have H := H1; clear H1
            replace H := Option.bind_eq_some_iff.mp H
            obtain ⟨t231, A440, H⟩ := H
            have A44 := Aside0.mk A440; clear A440
            by_cases c45 : t231 = true
            ·subst c45
             have H1 : (some 3) = some r := by rw [if_pos rfl] at H; exact H
             clear H; have H := H1; clear H1
             obtain rfl := Option.some.inj H
             go_wp2_with (first | (go_at_call 48; (with_reducible refine (galleyref02_in.calls t212 160 191 false _ A18.out).mono ?_); rintro e w' ⟨rfl, ⟨nd, rfl⟩⟩) | (go_at_call 48; (with_reducible refine (galleyref02_in.calls t211 225 236 false _ A20.out).mono ?_); rintro e w' ⟨rfl, ⟨nd, rfl⟩⟩) | (go_at_call 48; (with_reducible refine (galleyref02_in.calls t211 238 239 true _ A42.out).mono ?_); rintro e w' ⟨rfl, ⟨nd, rfl⟩⟩) | (go_at_call 48; (with_reducible refine (galleyref02_in.calls t212 128 191 true _ A44.out).mono ?_); rintro e w' ⟨rfl, ⟨nd, rfl⟩⟩))
             go_ret
             exact ⟨by first | rfl | (simp; done) | (simp [*]; done), by repeat (first | exact Drawn0.refl _ | apply Drawn0.step)⟩
            ·replace c45 := Bool.eq_false_iff.mpr c45
             subst c45
             have H1 : (galleyref02_Long.j1 kj8 t211 t212 t213 t214) = some r := by rw [if_neg (show ¬ (false = true) by decide)] at H; exact H
             clear H; have H := H1; clear H1; have H' := Aside0.mk H; clear H
             go_wp2_with (first | (go_at_call 48; (with_reducible refine (galleyref02_in.calls t212 160 191 false _ A18.out).mono ?_); rintro e w' ⟨rfl, ⟨nd, rfl⟩⟩) | (go_at_call 48; (with_reducible refine (galleyref02_in.calls t211 225 236 false _ A20.out).mono ?_); rintro e w' ⟨rfl, ⟨nd, rfl⟩⟩) | (go_at_call 48; (with_reducible refine (galleyref02_in.calls t211 238 239 true _ A42.out).mono ?_); rintro e w' ⟨rfl, ⟨nd, rfl⟩⟩) | (go_at_call 48; (with_reducible refine (galleyref02_in.calls t212 128 191 false _ A44.out).mono ?_); rintro e w' ⟨rfl, ⟨nd, rfl⟩⟩))
             go_meet
             case rel => exact ⟨_, H', ⟨by have := HJ8.out; first | omega | exact Nat.le_refl _⟩, by repeat (first | exact Drawn0.refl _ | apply Drawn0.step)⟩
           ·replace c43 := Bool.eq_false_iff.mpr c43
            subst c43
            have H1 : (galleyref02_Long.j1 kj8 t211 t212 t213 t214) = some r := by rw [if_neg (show ¬ (false = true) by decide)] at H; exact H
            clear H; have H := H1; clear H1; have H' := Aside0.mk H; clear H
            go_wp2_with (first | (go_at_call 48; (with_reducible refine (galleyref02_in.calls t212 160 191 false _ A18.out).mono ?_); rintro e w' ⟨rfl, ⟨nd, rfl⟩⟩) | (go_at_call 48; (with_reducible refine (galleyref02_in.calls t211 225 236 false _ A20.out).mono ?_); rintro e w' ⟨rfl, ⟨nd, rfl⟩⟩) | (go_at_call 48; (with_reducible refine (galleyref02_in.calls t211 238 239 false _ A42.out).mono ?_); rintro e w' ⟨rfl, ⟨nd, rfl⟩⟩))
            go_meet
            case rel => exact ⟨_, H', ⟨by have := HJ8.out; first | omega | exact Nat.le_refl _⟩, by repeat (first | exact Drawn0.refl _ | apply Drawn0.step)⟩
       ·rw [if_neg c17] at H
        have c17b0 : (t211 == 224) = false := beq_eq_false_iff_ne.mpr c17
        have c17b1 : (t211 != 224) = true := bne_iff_ne.mpr c17
        (first | rw [c17b0] | (simp only [i64_w, i32_w]; rw [c17b0]) | skip)
        replace H := Option.bind_eq_some_iff.mp H
        obtain ⟨t232, A460, H⟩ := H
        have A46 := Aside0.mk A460; clear A460
        by_cases c47 : t232 = true
        ·subst c47
         have H1 : ((galleyref02_in.f t212 128 191).bind fun t233 => (if t233 = true then (some 3) else (if t211 = 237 then ((galleyref02_in.f t212 128 159).bind fun t234 => (if t234 = true then (some 3) else ((galleyref02_in.f t211 238 239).bind fun t235 => (if t235 = true then ((galleyref02_in.f t212 128 191).bind fun t236 => (if t236 = true then (some 3) else (galleyref02_Long.j1 kj8 t211 t212 t213 t214))) else (galleyref02_Long.j1 kj8 t211 t212 t213 t214))))) else ((galleyref02_in.f t211 238 239).bind fun t237 => (if t237 = true then ((galleyref02_in.f t212 128 191).bind fun t238 => (if t238 = true then (some 3) else (galleyref02_Long.j1 kj8 t211 t212 t213 t214))) else (galleyref02_Long.j1 kj8 t211 t212 t213 t214)))))) = some r := by rw [if_pos rfl] at H; exact H
         clear H; have H := H1; clear H1
         replace H := Option.bind_eq_some_iff.mp H
         obtain ⟨t233, A480, H⟩ := H
         have A48 := Aside0.mk A480; clear A480
         by_cases c49 : t233 = true
         ·subst c49
          have H1 : (some 3) = some r := by rw [if_pos rfl] at H; exact H
          clear H; have H := H1; clear H1
          obtain rfl := Option.some.inj H
          go_wp2_with (first | (go_at_call 48; (with_reducible refine (galleyref02_in.calls t211 225 236 true _ A46.out).mono ?_); rintro e w' ⟨rfl, ⟨nd, rfl⟩⟩) | (go_at_call 48; (with_reducible refine (galleyref02_in.calls t212 128 191 true _ A48.out).mono ?_); rintro e w' ⟨rfl, ⟨nd, rfl⟩⟩))
          go_ret
          exact ⟨by first | rfl | (simp; done) | (simp [*]; done), by repeat (first | exact Drawn0.refl _ | apply Drawn0.step)⟩
         ·replace c49 := Bool.eq_false_iff.mpr c49
          subst c49
          have H1 : (if t211 = 237 then ((galleyref02_in.f t212 128 159).bind fun t234 => (if t234 = true then (some 3) else ((galleyref02_in.f t211 238 239).bind fun t235 => (if t235 = true then ((galleyref02_in.f t212 128 191).bind fun t236 => (if t236 = true then (some 3) else (galleyref02_Long.j1 kj8 t211 t212 t213 t214))) else (galleyref02_Long.j1 kj8 t211 t212 t213 t214))))) else ((galleyref02_in.f t211 238 239).bind fun t237 => (if t237 = true then ((galleyref02_in.f t212 128 191).bind fun t238 => (if t238 = true then (some 3) else (galleyref02_Long.j1 kj8 t211 t212 t213 t214))) else (galleyref02_Long.j1 kj8 t211 t212 t213 t214)))) = some r := by rw [if_neg (show ¬ (false = true) by decide)] at H; exact H
          clear H; have H := H1; clear H1
          by_cases c50 : t211 = 237
          ·rw [if_pos c50] at H
           have c50b0 : (t211 == 237) = true := beq_iff_eq.mpr c50
           have c50b1 : (t211 != 237) = false := bne_eq_false_iff_eq.mpr c50
           clear c50
           replace H := Option.bind_eq_some_iff.mp H
           obtain ⟨t234, A510, H⟩ := H
           have A51 := Aside0.mk A510; clear A510
           by_cases c52 : t234 = true
           ·subst c52
            have H1 : (some 3) = some r := by rw [if_pos rfl] at H; exact H
            clear H; have H := H1; clear H1
            obtain rfl := Option.some.inj H
            go_wp2_with (first | (go_at_call 48; (with_reducible refine (galleyref02_in.calls t211 225 236 true _ A46.out).mono ?_); rintro e w' ⟨rfl, ⟨nd, rfl⟩⟩) | (go_at_call 48; (with_reducible refine (galleyref02_in.calls t212 128 191 false _ A48.out).mono ?_); rintro e w' ⟨rfl, ⟨nd, rfl⟩⟩) | (go_at_call 48; (with_reducible refine (galleyref02_in.calls t212 128 159 true _ A51.out).mono ?_); rintro e w' ⟨rfl, ⟨nd, rfl⟩⟩))
            go_ret
            exact ⟨by first | rfl | (simp; done) | (simp [*]; done), by repeat (first | exact Drawn0.refl _ | apply Drawn0.step)⟩
           ·replace c52 := Bool.eq_false_iff.mpr c52
            subst c52
            have H1 : ((galleyref02_in.f t211 238 239).bind fun t235 => (if t235 = true then ((galleyref02_in.f t212 128 191).bind fun t236 => (if t236 = true then (some 3) else (galleyref02_Long.j1 kj8 t211 t212 t213 t214))) else (galleyref02_Long.j1 kj8 t211 t212 t213 t214))) = some r := by rw [if_neg (show ¬ (false = true) by decide)] at H; exact H
            clear H; have H := H1; clear H1
            replace H := Option.bind_eq_some_iff.mp H
            obtain ⟨t235, A530, H⟩ := H
            have A53 := Aside0.mk A530; clear A530
            by_cases c54 : t235 = true
            ·subst c54
             have H1 : ((galleyref02_in.f t212 128 191).bind fun t236 => (if t236 = true then (some 3) else (galleyref02_Long.j1 kj8 t211 t212 t213 t214))) = some r := by rw [if_pos rfl] at H; exact H
             clear H; have H := H1; clear H1
             replace H := Option.bind_eq_some_iff.mp H
             obtain ⟨t236, A550, H⟩ := H
             have A55 := Aside0.mk A550; clear A550
             by_cases c56 : t236 = true
             ·subst c56
              have H1 : (some 3) = some r := by rw [if_pos rfl] at H; exact H
              clear H; have H := H1; clear H1
              obtain rfl := Option.some.inj H
              exact absurd (Option.some.inj (A55.out.symm.trans A48.out)) (by decide)
             ·replace c56 := Bool.eq_false_iff.mpr c56
              subst c56
              have H1 : (galleyref02_Long.j1 kj8 t211 t212 t213 t214) = some r := by rw [if_neg (show ¬ (false = true) by decide)] at H; exact H
              clear H; have H := H1; clear H1; have H' := Aside0.mk H; clear H
              go_wp2_with (first | (go_at_call 48; (with_reducible refine (galleyref02_in.calls t211 225 236 true _ A46.out).mono ?_); rintro e w' ⟨rfl, ⟨nd, rfl⟩⟩) | (go_at_call 48; (with_reducible refine (galleyref02_in.calls t212 128 191 false _ A48.out).mono ?_); rintro e w' ⟨rfl, ⟨nd, rfl⟩⟩) | (go_at_call 48; (with_reducible refine (galleyref02_in.calls t212 128 159 false _ A51.out).mono ?_); rintro e w' ⟨rfl, ⟨nd, rfl⟩⟩) | (go_at_call 48; (with_reducible refine (galleyref02_in.calls t211 238 239 true _ A53.out).mono ?_); rintro e w' ⟨rfl, ⟨nd, rfl⟩⟩) | (go_at_call 48; (with_reducible refine (galleyref02_in.calls t212 128 191 false _ A55.out).mono ?_); rintro e w' ⟨rfl, ⟨nd, rfl⟩⟩))
              go_meet
              case rel => exact ⟨_, H', ⟨by have := HJ8.out; first | omega | exact Nat.le_refl _⟩, by repeat (first | exact Drawn0.refl _ | apply Drawn0.step)⟩
            ·replace c54 := Bool.eq_false_iff.mpr c54
             subst c54
             have H1 : (galleyref02_Long.j1 kj8 t211 t212 t213 t214) = some r := by rw [if_neg (show ¬ (false = true) by decide)] at H; exact H
             clear H; have H := H1; clear H1; have H' := Aside0.mk H; clear H
             go_wp2_with (first | (go_at_call 48; (with_reducible refine (galleyref02_in.calls t211 225 236 true _ A46.out).mono ?_); rintro e w' ⟨rfl, ⟨nd, rfl⟩⟩) | (go_at_call 48; (with_reducible refine (galleyref02_in.calls t212 128 191 false _ A48.out).mono ?_); rintro e w' ⟨rfl, ⟨nd, rfl⟩⟩) | (go_at_call 48; (with_reducible refine (galleyref02_in.calls t212 128 159 false _ A51.out).mono ?_); rintro e w' ⟨rfl, ⟨nd, rfl⟩⟩) | (go_at_call 48; (with_reducible refine (galleyref02_in.calls t211 238 239 false _ A53.out).mono ?_); rintro e w' ⟨rfl, ⟨nd, rfl⟩⟩))
             go_meet
             case rel => exact ⟨_, H', ⟨by have := HJ8.out; first | omega | exact Nat.le_refl _⟩, by repeat (first | exact Drawn0.refl _ | apply Drawn0.step)⟩
          ·rw [if_neg c50] at H
           have c50b0 : (t211 == 237) = false := beq_eq_false_iff_ne.mpr c50
           have c50b1 : (t211 != 237) = true := bne_iff_ne.mpr c50
           replace H := Option.bind_eq_some_iff.mp H
           obtain ⟨t237, A570, H⟩ := H
           have A57 := Aside0.mk A570; clear A570
           by_cases c58 : t237 = true
           ·subst c58
            have H1 : ((galleyref02_in.f t212 128 191).bind fun t238 => (if t238 = true then (some 3) else (galleyref02_Long.j1 kj8 t211 t212 t213 t214))) = some r := by rw [if_pos rfl] at H; exact H
            clear H; have H := H1; clear H1
            replace H := Option.bind_eq_some_iff.mp H
            obtain ⟨t238, A590, H⟩ := H
            have A59 := Aside0.mk A590; clear A590
            by_cases c60 : t238 = true
            ·subst c60
             have H1 : (some 3) = some r := by rw [if_pos rfl] at H; exact H
             clear H; have H := H1; clear H1
             obtain rfl := Option.some.inj H
             exact absurd (Option.some.inj (A59.out.symm.trans A48.out)) (by decide)
            ·replace c60 := Bool.eq_false_iff.mpr c60
             subst c60
             have H1 : (galleyref02_Long.j1 kj8 t211 t212 t213 t214) = some r := by rw [if_neg (show ¬ (false = true) by decide)] at H; exact H
             clear H; have H := H1; clear H1; have H' := Aside0.mk H; clear H
             go_wp2_with (first | (go_at_call 48; (with_reducible refine (galleyref02_in.calls t211 225 236 true _ A46.out).mono ?_); rintro e w' ⟨rfl, ⟨nd, rfl⟩⟩) | (go_at_call 48; (with_reducible refine (galleyref02_in.calls t212 128 191 false _ A48.out).mono ?_); rintro e w' ⟨rfl, ⟨nd, rfl⟩⟩) | (go_at_call 48; (with_reducible refine (galleyref02_in.calls t211 238 239 true _ A57.out).mono ?_); rintro e w' ⟨rfl, ⟨nd, rfl⟩⟩) | (go_at_call 48; (with_reducible refine (galleyref02_in.calls t212 128 191 false _ A59.out).mono ?_); rintro e w' ⟨rfl, ⟨nd, rfl⟩⟩))
             go_meet
             case rel => exact ⟨_, H', ⟨by have := HJ8.out; first | omega | exact Nat.le_refl _⟩, by repeat (first | exact Drawn0.refl _ | apply Drawn0.step)⟩
           ·replace c58 := Bool.eq_false_iff.mpr c58
            subst c58
            have H1 : (galleyref02_Long.j1 kj8 t211 t212 t213 t214) = some r := by rw [if_neg (show ¬ (false = true) by decide)] at H; exact H
            clear H; have H := H1; clear H1; have H' := Aside0.mk H; clear H
            go_wp2_with (first | (go_at_call 48; (with_reducible refine (galleyref02_in.calls t211 225 236 true _ A46.out).mono ?_); rintro e w' ⟨rfl, ⟨nd, rfl⟩⟩) | (go_at_call 48; (with_reducible refine (galleyref02_in.calls t212 128 191 false _ A48.out).mono ?_); rintro e w' ⟨rfl, ⟨nd, rfl⟩⟩) | (go_at_call 48; (with_reducible refine (galleyref02_in.calls t211 238 239 false _ A57.out).mono ?_); rintro e w' ⟨rfl, ⟨nd, rfl⟩⟩))
            go_meet
            case rel => exact ⟨_, H', ⟨by have := HJ8.out; first | omega | exact Nat.le_refl _⟩, by repeat (first | exact Drawn0.refl _ | apply Drawn0.step)⟩
        ·replace c47 := Bool.eq_false_iff.mpr c47
         subst c47
         have H1 : (if t211 = 237 then ((galleyref02_in.f t212 128 159).bind fun t239 => (if t239 = true then (some 3) else ((galleyref02_in.f t211 238 239).bind fun t240 => (if t240 = true then ((galleyref02_in.f t212 128 191).bind fun t241 => (if t241 = true then (some 3) else (galleyref02_Long.j1 kj8 t211 t212 t213 t214))) else (galleyref02_Long.j1 kj8 t211 t212 t213 t214))))) else ((galleyref02_in.f t211 238 239).bind fun t242 => (if t242 = true then ((galleyref02_in.f t212 128 191).bind fun t243 => (if t243 = true then (some 3) else (galleyref02_Long.j1 kj8 t211 t212 t213 t214))) else (galleyref02_Long.j1 kj8 t211 t212 t213 t214)))) = some r := by rw [if_neg (show ¬ (false = true) by decide)] at H; exact H
         clear H; have H := H1; clear H1
         by_cases c61 : t211 = 237
         ·rw [if_pos c61] at H
          have c61b0 : (t211 == 237) = true := beq_iff_eq.mpr c61
          have c61b1 : (t211 != 237) = false := bne_eq_false_iff_eq.mpr c61
          clear c61
          replace H := Option.bind_eq_some_iff.mp H
          obtain ⟨t239, A620, H⟩ := H
          have A62 := Aside0.mk A620; clear A620
          by_cases c63 : t239 = true
          ·subst c63
           have H1 : (some 3) = some r := by rw [if_pos rfl] at H; exact H
           clear H; have H := H1; clear H1
           obtain rfl := Option.some.inj H
           go_wp2_with (first | (go_at_call 48; (with_reducible refine (galleyref02_in.calls t211 225 236 false _ A46.out).mono ?_); rintro e w' ⟨rfl, ⟨nd, rfl⟩⟩) | (go_at_call 48; (with_reducible refine (galleyref02_in.calls t212 128 159 true _ A62.out).mono ?_); rintro e w' ⟨rfl, ⟨nd, rfl⟩⟩))
           go_ret
           exact ⟨by first | rfl | (simp; done) | (simp [*]; done), by repeat (first | exact Drawn0.refl _ | apply Drawn0.step)⟩
          ·replace c63 := Bool.eq_false_iff.mpr c63
           subst c63
           have H1 : ((galleyref02_in.f t211 238 239).bind fun t240 => (if t240 = true then ((galleyref02_in.f t212 128 191).bind fun t241 => (if t241 = true then (some 3) else (galleyref02_Long.j1 kj8 t211 t212 t213 t214))) else (galleyref02_Long.j1 kj8 t211 t212 t213 t214))) = some r := by rw [if_neg (show ¬ (false = true) by decide)] at H; exact H
           clear H; have H := H1; clear H1
           replace H := Option.bind_eq_some_iff.mp H
           obtain ⟨t240, A640, H⟩ := H
           have A64 := Aside0.mk A640; clear A640
           by_cases c65 : t240 = true
           ·subst c65
            have H1 : ((galleyref02_in.f t212 128 191).bind fun t241 => (if t241 = true then (some 3) else (galleyref02_Long.j1 kj8 t211 t212 t213 t214))) = some r := by rw [if_pos rfl] at H; exact H
            clear H; have H := H1; clear H1
            replace H := Option.bind_eq_some_iff.mp H
            obtain ⟨t241, A660, H⟩ := H
            have A66 := Aside0.mk A660; clear A660
            by_cases c67 : t241 = true
            ·subst c67
             have H1 : (some 3) = some r := by rw [if_pos rfl] at H; exact H
             clear H; have H := H1; clear H1
             obtain rfl := Option.some.inj H
             go_wp2_with (first | (go_at_call 48; (with_reducible refine (galleyref02_in.calls t211 225 236 false _ A46.out).mono ?_); rintro e w' ⟨rfl, ⟨nd, rfl⟩⟩) | (go_at_call 48; (with_reducible refine (galleyref02_in.calls t212 128 159 false _ A62.out).mono ?_); rintro e w' ⟨rfl, ⟨nd, rfl⟩⟩) | (go_at_call 48; (with_reducible refine (galleyref02_in.calls t211 238 239 true _ A64.out).mono ?_); rintro e w' ⟨rfl, ⟨nd, rfl⟩⟩) | (go_at_call 48; (with_reducible refine (galleyref02_in.calls t212 128 191 true _ A66.out).mono ?_); rintro e w' ⟨rfl, ⟨nd, rfl⟩⟩))
             go_ret
             exact ⟨by first | rfl | (simp; done) | (simp [*]; done), by repeat (first | exact Drawn0.refl _ | apply Drawn0.step)⟩
            ·replace c67 := Bool.eq_false_iff.mpr c67
             subst c67
             have H1 : (galleyref02_Long.j1 kj8 t211 t212 t213 t214) = some r := by rw [if_neg (show ¬ (false = true) by decide)] at H; exact H
             clear H; have H := H1; clear H1; have H' := Aside0.mk H; clear H
             go_wp2_with (first | (go_at_call 48; (with_reducible refine (galleyref02_in.calls t211 225 236 false _ A46.out).mono ?_); rintro e w' ⟨rfl, ⟨nd, rfl⟩⟩) | (go_at_call 48; (with_reducible refine (galleyref02_in.calls t212 128 159 false _ A62.out).mono ?_); rintro e w' ⟨rfl, ⟨nd, rfl⟩⟩) | (go_at_call 48; (with_reducible refine (galleyref02_in.calls t211 238 239 true _ A64.out).mono ?_); rintro e w' ⟨rfl, ⟨nd, rfl⟩⟩) | (go_at_call 48; (with_reducible refine (galleyref02_in.calls t212 128 191 false _ A66.out).mono ?_); rintro e w' ⟨rfl, ⟨nd, rfl⟩⟩))
             go_meet
             case rel => exact ⟨_, H', ⟨by have := HJ8.out; first | omega | exact Nat.le_refl _⟩, by repeat (first | exact Drawn0.refl _ | apply Drawn0.step)⟩
           ·replace c65 := Bool.eq_false_iff.mpr c65
            subst c65
            have H1 : (galleyref02_Long.j1 kj8 t211 t212 t213 t214) = some r := by rw [if_neg (show ¬ (false = true) by decide)] at H; exact H
            clear H; have H := H1; clear H1; have H' := Aside0.mk H; clear H
            go_wp2_with (first | (go_at_call 48; (with_reducible refine (galleyref02_in.calls t211 225 236 false _ A46.out).mono ?_); rintro e w' ⟨rfl, ⟨nd, rfl⟩⟩) | (go_at_call 48; (with_reducible refine (galleyref02_in.calls t212 128 159 false _ A62.out).mono ?_); rintro e w' ⟨rfl, ⟨nd, rfl⟩⟩) | (go_at_call 48; (with_reducible refine (galleyref02_in.calls t211 238 239 false _ A64.out).mono ?_); rintro e w' ⟨rfl, ⟨nd, rfl⟩⟩))
            go_meet
            case rel => exact ⟨_, H', ⟨by have := HJ8.out; first | omega | exact Nat.le_refl _⟩, by repeat (first | exact Drawn0.refl _ | apply Drawn0.step)⟩
         ·rw [if_neg c61] at H
          have c61b0 : (t211 == 237) = false := beq_eq_false_iff_ne.mpr c61
          have c61b1 : (t211 != 237) = true := bne_iff_ne.mpr c61
          replace H := Option.bind_eq_some_iff.mp H
          obtain ⟨t242, A680, H⟩ := H
          have A68 := Aside0.mk A680; clear A680
          by_cases c69 : t242 = true
          ·subst c69
           have H1 : ((galleyref02_in.f t212 128 191).bind fun t243 => (if t243 = true then (some 3) else (galleyref02_Long.j1 kj8 t211 t212 t213 t214))) = some r := by rw [if_pos rfl] at H; exact H
           clear H; have H := H1; clear H1
           replace H := Option.bind_eq_some_iff.mp H
           obtain ⟨t243, A700, H⟩ := H
           have A70 := Aside0.mk A700; clear A700
           by_cases c71 : t243 = true
           ·subst c71
            have H1 : (some 3) = some r := by rw [if_pos rfl] at H; exact H
            clear H; have H := H1; clear H1
            obtain rfl := Option.some.inj H
            go_wp2_with (first | (go_at_call 48; (with_reducible refine (galleyref02_in.calls t211 225 236 false _ A46.out).mono ?_); rintro e w' ⟨rfl, ⟨nd, rfl⟩⟩) | (go_at_call 48; (with_reducible refine (galleyref02_in.calls t211 238 239 true _ A68.out).mono ?_); rintro e w' ⟨rfl, ⟨nd, rfl⟩⟩) | (go_at_call 48; (with_reducible refine (galleyref02_in.calls t212 128 191 true _ A70.out).mono ?_); rintro e w' ⟨rfl, ⟨nd, rfl⟩⟩))
            go_ret
            exact ⟨by first | rfl | (simp; done) | (simp [*]; done), by repeat (first | exact Drawn0.refl _ | apply Drawn0.step)⟩
           ·replace c71 := Bool.eq_false_iff.mpr c71
            subst c71
            have H1 : (galleyref02_Long.j1 kj8 t211 t212 t213 t214) = some r := by rw [if_neg (show ¬ (false = true) by decide)] at H; exact H
            clear H; have H := H1; clear H1; have H' := Aside0.mk H; clear H
            go_wp2_with (first | (go_at_call 48; (with_reducible refine (galleyref02_in.calls t211 225 236 false _ A46.out).mono ?_); rintro e w' ⟨rfl, ⟨nd, rfl⟩⟩) | (go_at_call 48; (with_reducible refine (galleyref02_in.calls t211 238 239 true _ A68.out).mono ?_); rintro e w' ⟨rfl, ⟨nd, rfl⟩⟩) | (go_at_call 48; (with_reducible refine (galleyref02_in.calls t212 128 191 false _ A70.out).mono ?_); rintro e w' ⟨rfl, ⟨nd, rfl⟩⟩))
            go_meet
            case rel => exact ⟨_, H', ⟨by have := HJ8.out; first | omega | exact Nat.le_refl _⟩, by repeat (first | exact Drawn0.refl _ | apply Drawn0.step)⟩
          ·replace c69 := Bool.eq_false_iff.mpr c69
           subst c69
           have H1 : (galleyref02_Long.j1 kj8 t211 t212 t213 t214) = some r := by rw [if_neg (show ¬ (false = true) by decide)] at H; exact H
           clear H; have H := H1; clear H1; have H' := Aside0.mk H; clear H
           go_wp2_with (first | (go_at_call 48; (with_reducible refine (galleyref02_in.calls t211 225 236 false _ A46.out).mono ?_); rintro e w' ⟨rfl, ⟨nd, rfl⟩⟩) | (go_at_call 48; (with_reducible refine (galleyref02_in.calls t211 238 239 false _ A68.out).mono ?_); rintro e w' ⟨rfl, ⟨nd, rfl⟩⟩))
           go_meet
           case rel => exact ⟨_, H', ⟨by have := HJ8.out; first | omega | exact Nat.le_refl _⟩, by repeat (first | exact Drawn0.refl _ | apply Drawn0.step)⟩
      ·replace c16 := Bool.eq_false_iff.mpr c16
       subst c16
       have H1 : (galleyref02_Long.j1 kj8 t211 t212 t213 t214) = some r := by rw [if_neg (show ¬ (false = true) by decide)] at H; exact H
       clear H; have H := H1; clear H1; have H' := Aside0.mk H; clear H
       go_wp2
       go_meet
       case rel => exact ⟨_, H', ⟨by have := HJ8.out; first | omega | exact Nat.le_refl _⟩, by repeat (first | exact Drawn0.refl _ | apply Drawn0.step)⟩
     case rest =>
      clear HC15; (try clear c1); (try clear c2); (try clear p2); (try clear c3); (try clear c4); (try clear c5); (try clear c6); (try clear c7); (try clear c16); (try clear c17); (try clear c17b0); (try clear c17b1); (try clear c19); (try clear c21); (try clear c23); (try clear c24); (try clear c24b0); (try clear c24b1); (try clear c26); (try clear c28); (try clear c30); (try clear c32); (try clear c34); (try clear c35); (try clear c35b0); (try clear c35b1); (try clear c37); (try clear c39); (try clear c41); (try clear c43); (try clear c45); (try clear c47); (try clear c49); (try clear c50); (try clear c50b0); (try clear c50b1); (try clear c52); (try clear c54); (try clear c56); (try clear c58); (try clear c60); (try clear c61); (try clear c61b0); (try clear c61b1); (try clear c63); (try clear c65); (try clear c67); (try clear c69); (try clear c71)
      obtain ⟨kq, HA, HJ14, ⟨mc14, rfl⟩⟩ := hcut
      cases kq with
      | zero => exact absurd HA.out (by simp [galleyref02_Long.j1])
      | succ kj14 =>
       have H := HA.out; clear HA
       simp only [galleyref02_Long.j1] at H
       have HC72 := Aside0.mk H; clear H
       go_upto_region 9 with (fail)
       go_cut [69] (fun v69 wc => ∃ (kq : Nat) (x69_71 : Bool), v69 = .bool x69_71 ∧ Aside0 (galleyref02_Long.j2 kq t211 t212 x69_71 = some r) ∧ Aside0 (kq ≤ kj14) ∧ Drawn0 w wc)
       case first =>
        have H := HC72.out; clear HC72
        replace H := Option.bind_eq_some_iff.mp H
        obtain ⟨t244, A730, H⟩ := H
        have A73 := Aside0.mk A730; clear A730
        by_cases c74 : t244 = true
        ·subst c74
         have H1 : ((galleyref02_in.f t214 128 191).bind fun t245 => (galleyref02_Long.j2 kj14 t211 t212 t245)) = some r := by rw [if_pos rfl] at H; exact H
         clear H; have H := H1; clear H1
         replace H := Option.bind_eq_some_iff.mp H
         obtain ⟨t245, A750, H⟩ := H
         have A75 := Aside0.mk A750; clear A750; have H' := Aside0.mk H; clear H
         go_wp2_with (first | ((with_reducible refine gate_callee (f := 48) rfl ?_); refine goesL_ (some 65) rfl rfl Tryd.func48 (by kernel_rfl) rfl #[.int .i64 t213, .int .i64 128, .int .i64 191] rfl (by (try simp only [List.map_toArray, List.map_cons, List.map_nil]); first | done | rfl | (simp only [List.length_drop, List.length_take]; rfl)) ?_; (with_reducible refine (galleyref02_in.calls t213 128 191 true _ A73.out).mono ?_); rintro e w' ⟨rfl, ⟨nd, rfl⟩⟩; refine ⟨_, rfl, ?_⟩) | (go_at_call 48; (with_reducible refine (galleyref02_in.calls t214 128 191 t245 _ A75.out).mono ?_); rintro e w' ⟨rfl, ⟨nd, rfl⟩⟩))
         go_meet
         case rel => exact ⟨_, (t245), (by first | rfl | (simp; done) | (simp [*]; done)), H', ⟨by have := HJ8.out; have := HJ14.out; first | omega | exact Nat.le_refl _⟩, by repeat (first | exact Drawn0.refl _ | apply Drawn0.step)⟩
        ·replace c74 := Bool.eq_false_iff.mpr c74
         subst c74
         have H1 : (galleyref02_Long.j2 kj14 t211 t212 false) = some r := by rw [if_neg (show ¬ (false = true) by decide)] at H; exact H
         clear H; have H := H1; clear H1; have H' := Aside0.mk H; clear H
         go_wp2_with (first | ((with_reducible refine gate_callee (f := 48) rfl ?_); refine goesL_ (some 65) rfl rfl Tryd.func48 (by kernel_rfl) rfl #[.int .i64 t213, .int .i64 128, .int .i64 191] rfl (by (try simp only [List.map_toArray, List.map_cons, List.map_nil]); first | done | rfl | (simp only [List.length_drop, List.length_take]; rfl)) ?_; (with_reducible refine (galleyref02_in.calls t213 128 191 false _ A73.out).mono ?_); rintro e w' ⟨rfl, ⟨nd, rfl⟩⟩; refine ⟨_, rfl, ?_⟩))
         go_meet
         case rel => exact ⟨_, (false), (by first | rfl | (simp; done) | (simp [*]; done)), H', ⟨by have := HJ8.out; have := HJ14.out; first | omega | exact Nat.le_refl _⟩, by repeat (first | exact Drawn0.refl _ | apply Drawn0.step)⟩
       case rest =>
        clear HC72; (try clear c1); (try clear c2); (try clear p2); (try clear c3); (try clear c4); (try clear c5); (try clear c6); (try clear c7); (try clear c14); (try clear c16); (try clear c17); (try clear c17b0); (try clear c17b1); (try clear c19); (try clear c21); (try clear c23); (try clear c24); (try clear c24b0); (try clear c24b1); (try clear c26); (try clear c28); (try clear c30); (try clear c32); (try clear c34); (try clear c35); (try clear c35b0); (try clear c35b1); (try clear c37); (try clear c39); (try clear c41); (try clear c43); (try clear c45); (try clear c47); (try clear c48); (try clear c49); (try clear c50); (try clear c50b0); (try clear c50b1); (try clear c52); (try clear c54); (try clear c56); (try clear c58); (try clear c60); (try clear c61); (try clear c61b0); (try clear c61b1); (try clear c63); (try clear c65); (try clear c67); (try clear c69); (try clear c71); (try clear c74); (try clear p2)
        obtain ⟨kq, x69_71, rfl, HA, HJ71, ⟨mc71, rfl⟩⟩ := hcut
        cases kq with
        | zero => exact absurd HA.out (by simp [galleyref02_Long.j2])
        | succ kj71 =>
         have H := HA.out; clear HA
         simp only [galleyref02_Long.j2] at H
         by_cases c76 : x69_71 = true
         ·subst c76
          have H1 : (if t211 = 240 then ((galleyref02_in.f t212 144 191).bind fun t246 => (if t246 = true then (some 4) else ((galleyref02_in.f t211 241 243).bind fun t247 => (if t247 = true then ((galleyref02_in.f t212 128 191).bind fun t248 => (if t248 = true then (some 4) else (if t211 = 244 then ((galleyref02_in.f t212 128 143).bind fun t249 => (if t249 = true then (some 4) else (some 0))) else (some 0)))) else (if t211 = 244 then ((galleyref02_in.f t212 128 143).bind fun t250 => (if t250 = true then (some 4) else (some 0))) else (some 0)))))) else ((galleyref02_in.f t211 241 243).bind fun t251 => (if t251 = true then ((galleyref02_in.f t212 128 191).bind fun t252 => (if t252 = true then (some 4) else (if t211 = 244 then ((galleyref02_in.f t212 128 143).bind fun t253 => (if t253 = true then (some 4) else (some 0))) else (some 0)))) else (if t211 = 244 then ((galleyref02_in.f t212 128 143).bind fun t254 => (if t254 = true then (some 4) else (some 0))) else (some 0))))) = some r := by rw [if_pos rfl] at H; exact H
          clear H; have H := H1; clear H1
          by_cases c77 : t211 = 240
          ·rw [if_pos c77] at H
           have c77b0 : (t211 == 240) = true := beq_iff_eq.mpr c77
           have c77b1 : (t211 != 240) = false := bne_eq_false_iff_eq.mpr c77
           clear c77
           replace H := Option.bind_eq_some_iff.mp H
           obtain ⟨t246, A780, H⟩ := H
           have A78 := Aside0.mk A780; clear A780
           by_cases c79 : t246 = true
           ·subst c79
            have H1 : (some 4) = some r := by rw [if_pos rfl] at H; exact H
            clear H; have H := H1; clear H1
            obtain rfl := Option.some.inj H
            go_wp2_with (first | (go_at_call 48; (with_reducible refine (galleyref02_in.calls t212 144 191 true _ A78.out).mono ?_); rintro e w' ⟨rfl, ⟨nd, rfl⟩⟩))
            go_ret
            exact ⟨by first | rfl | (simp; done) | (simp [*]; done), by repeat (first | exact Drawn0.refl _ | apply Drawn0.step)⟩
           ·replace c79 := Bool.eq_false_iff.mpr c79
            subst c79
            have H1 : ((galleyref02_in.f t211 241 243).bind fun t247 => (if t247 = true then ((galleyref02_in.f t212 128 191).bind fun t248 => (if t248 = true then (some 4) else (if t211 = 244 then ((galleyref02_in.f t212 128 143).bind fun t249 => (if t249 = true then (some 4) else (some 0))) else (some 0)))) else (if t211 = 244 then ((galleyref02_in.f t212 128 143).bind fun t250 => (if t250 = true then (some 4) else (some 0))) else (some 0)))) = some r := by rw [if_neg (show ¬ (false = true) by decide)] at H; exact H
            clear H; have H := H1; clear H1
            replace H := Option.bind_eq_some_iff.mp H
            obtain ⟨t247, A800, H⟩ := H
            have A80 := Aside0.mk A800; clear A800
            by_cases c81 : t247 = true
            ·subst c81
             have H1 : ((galleyref02_in.f t212 128 191).bind fun t248 => (if t248 = true then (some 4) else (if t211 = 244 then ((galleyref02_in.f t212 128 143).bind fun t249 => (if t249 = true then (some 4) else (some 0))) else (some 0)))) = some r := by rw [if_pos rfl] at H; exact H
             clear H; have H := H1; clear H1
             replace H := Option.bind_eq_some_iff.mp H
             obtain ⟨t248, A820, H⟩ := H
             have A82 := Aside0.mk A820; clear A820
             by_cases c83 : t248 = true
             ·subst c83
              have H1 : (some 4) = some r := by rw [if_pos rfl] at H; exact H
              clear H; have H := H1; clear H1
              obtain rfl := Option.some.inj H
              go_wp2_with (first | (go_at_call 48; (with_reducible refine (galleyref02_in.calls t212 144 191 false _ A78.out).mono ?_); rintro e w' ⟨rfl, ⟨nd, rfl⟩⟩) | (go_at_call 48; (with_reducible refine (galleyref02_in.calls t211 241 243 true _ A80.out).mono ?_); rintro e w' ⟨rfl, ⟨nd, rfl⟩⟩) | (go_at_call 48; (with_reducible refine (galleyref02_in.calls t212 128 191 true _ A82.out).mono ?_); rintro e w' ⟨rfl, ⟨nd, rfl⟩⟩))
              go_ret
              exact ⟨by first | rfl | (simp; done) | (simp [*]; done), by repeat (first | exact Drawn0.refl _ | apply Drawn0.step)⟩
             ·replace c83 := Bool.eq_false_iff.mpr c83
              subst c83
              have H1 : (if t211 = 244 then ((galleyref02_in.f t212 128 143).bind fun t249 => (if t249 = true then (some 4) else (some 0))) else (some 0)) = some r := by rw [if_neg (show ¬ (false = true) by decide)] at H; exact H
              clear H; have H := H1; clear H1
              by_cases c84 : t211 = 244
              ·rw [if_pos c84] at H
               have c84b0 : (t211 == 244) = true := beq_iff_eq.mpr c84
               have c84b1 : (t211 != 244) = false := bne_eq_false_iff_eq.mpr c84
               clear c84
               replace H := Option.bind_eq_some_iff.mp H
               obtain ⟨t249, A850, H⟩ := H
               have A85 := Aside0.mk A850; clear A850
               by_cases c86 : t249 = true
               ·subst c86
                have H1 : (some 4) = some r := by rw [if_pos rfl] at H; exact H
                clear H; have H := H1; clear H1
                obtain rfl := Option.some.inj H
                go_wp2_with (first | (go_at_call 48; (with_reducible refine (galleyref02_in.calls t212 144 191 false _ A78.out).mono ?_); rintro e w' ⟨rfl, ⟨nd, rfl⟩⟩) | (go_at_call 48; (with_reducible refine (galleyref02_in.calls t211 241 243 true _ A80.out).mono ?_); rintro e w' ⟨rfl, ⟨nd, rfl⟩⟩) | (go_at_call 48; (with_reducible refine (galleyref02_in.calls t212 128 191 false _ A82.out).mono ?_); rintro e w' ⟨rfl, ⟨nd, rfl⟩⟩) | (go_at_call 48; (with_reducible refine (galleyref02_in.calls t212 128 143 true _ A85.out).mono ?_); rintro e w' ⟨rfl, ⟨nd, rfl⟩⟩))
                go_ret
                exact ⟨by first | rfl | (simp; done) | (simp [*]; done), by repeat (first | exact Drawn0.refl _ | apply Drawn0.step)⟩
               ·replace c86 := Bool.eq_false_iff.mpr c86
                subst c86
                have H1 : (some 0) = some r := by rw [if_neg (show ¬ (false = true) by decide)] at H; exact H
                clear H; have H := H1; clear H1
                obtain rfl := Option.some.inj H
                go_wp2_with (first | (go_at_call 48; (with_reducible refine (galleyref02_in.calls t212 144 191 false _ A78.out).mono ?_); rintro e w' ⟨rfl, ⟨nd, rfl⟩⟩) | (go_at_call 48; (with_reducible refine (galleyref02_in.calls t211 241 243 true _ A80.out).mono ?_); rintro e w' ⟨rfl, ⟨nd, rfl⟩⟩) | (go_at_call 48; (with_reducible refine (galleyref02_in.calls t212 128 191 false _ A82.out).mono ?_); rintro e w' ⟨rfl, ⟨nd, rfl⟩⟩) | (go_at_call 48; (with_reducible refine (galleyref02_in.calls t212 128 143 false _ A85.out).mono ?_); rintro e w' ⟨rfl, ⟨nd, rfl⟩⟩))
                go_ret
                exact ⟨by first | rfl | (simp; done) | (simp [*]; done), by repeat (first | exact Drawn0.refl _ | apply Drawn0.step)⟩
              ·rw [if_neg c84] at H
               have c84b0 : (t211 == 244) = false := beq_eq_false_iff_ne.mpr c84
               have c84b1 : (t211 != 244) = true := bne_iff_ne.mpr c84
               obtain rfl := Option.some.inj H
               go_wp2_with (first | (go_at_call 48; (with_reducible refine (galleyref02_in.calls t212 144 191 false _ A78.out).mono ?_); rintro e w' ⟨rfl, ⟨nd, rfl⟩⟩) | (go_at_call 48; (with_reducible refine (galleyref02_in.calls t211 241 243 true _ A80.out).mono ?_); rintro e w' ⟨rfl, ⟨nd, rfl⟩⟩) | (go_at_call 48; (with_reducible refine (galleyref02_in.calls t212 128 191 false _ A82.out).mono ?_); rintro e w' ⟨rfl, ⟨nd, rfl⟩⟩))
               go_ret
               exact ⟨by first | rfl | (simp; done) | (simp [*]; done), by repeat (first | exact Drawn0.refl _ | apply Drawn0.step)⟩
            ·replace c81 := Bool.eq_false_iff.mpr c81
             subst c81
             have H1 : (if t211 = 244 then ((galleyref02_in.f t212 128 143).bind fun t250 => (if t250 = true then (some 4) else (some 0))) else (some 0)) = some r := by rw [if_neg (show ¬ (false = true) by decide)] at H; exact H
             clear H; have H := H1; clear H1
             by_cases c87 : t211 = 244
             ·rw [if_pos c87] at H
              have c87b0 : (t211 == 244) = true := beq_iff_eq.mpr c87
              have c87b1 : (t211 != 244) = false := bne_eq_false_iff_eq.mpr c87
              clear c87
              replace H := Option.bind_eq_some_iff.mp H
              obtain ⟨t250, A880, H⟩ := H
              have A88 := Aside0.mk A880; clear A880
              by_cases c89 : t250 = true
              ·subst c89
               have H1 : (some 4) = some r := by rw [if_pos rfl] at H; exact H
               clear H; have H := H1; clear H1
               obtain rfl := Option.some.inj H
               go_wp2_with (first | (go_at_call 48; (with_reducible refine (galleyref02_in.calls t212 144 191 false _ A78.out).mono ?_); rintro e w' ⟨rfl, ⟨nd, rfl⟩⟩) | (go_at_call 48; (with_reducible refine (galleyref02_in.calls t211 241 243 false _ A80.out).mono ?_); rintro e w' ⟨rfl, ⟨nd, rfl⟩⟩) | (go_at_call 48; (with_reducible refine (galleyref02_in.calls t212 128 143 true _ A88.out).mono ?_); rintro e w' ⟨rfl, ⟨nd, rfl⟩⟩))
               go_ret
               exact ⟨by first | rfl | (simp; done) | (simp [*]; done), by repeat (first | exact Drawn0.refl _ | apply Drawn0.step)⟩
              ·replace c89 := Bool.eq_false_iff.mpr c89
               subst c89
               have H1 : (some 0) = some r := by rw [if_neg (show ¬ (false = true) by decide)] at H; exact H
               clear H; have H := H1; clear H1
               obtain rfl := Option.some.inj H
               go_wp2_with (first | (go_at_call 48; (with_reducible refine (galleyref02_in.calls t212 144 191 false _ A78.out).mono ?_); rintro e w' ⟨rfl, ⟨nd, rfl⟩⟩) | (go_at_call 48; (with_reducible refine (galleyref02_in.calls t211 241 243 false _ A80.out).mono ?_); rintro e w' ⟨rfl, ⟨nd, rfl⟩⟩) | (go_at_call 48; (with_reducible refine (galleyref02_in.calls t212 128 143 false _ A88.out).mono ?_); rintro e w' ⟨rfl, ⟨nd, rfl⟩⟩))
               go_ret
               exact ⟨by first | rfl | (simp; done) | (simp [*]; done), by repeat (first | exact Drawn0.refl _ | apply Drawn0.step)⟩
             ·rw [if_neg c87] at H
              have c87b0 : (t211 == 244) = false := beq_eq_false_iff_ne.mpr c87
              have c87b1 : (t211 != 244) = true := bne_iff_ne.mpr c87
              obtain rfl := Option.some.inj H
              go_wp2_with (first | (go_at_call 48; (with_reducible refine (galleyref02_in.calls t212 144 191 false _ A78.out).mono ?_); rintro e w' ⟨rfl, ⟨nd, rfl⟩⟩) | (go_at_call 48; (with_reducible refine (galleyref02_in.calls t211 241 243 false _ A80.out).mono ?_); rintro e w' ⟨rfl, ⟨nd, rfl⟩⟩))
              go_ret
              exact ⟨by first | rfl | (simp; done) | (simp [*]; done), by repeat (first | exact Drawn0.refl _ | apply Drawn0.step)⟩
          ·rw [if_neg c77] at H
           have c77b0 : (t211 == 240) = false := beq_eq_false_iff_ne.mpr c77
           have c77b1 : (t211 != 240) = true := bne_iff_ne.mpr c77
           replace H := Option.bind_eq_some_iff.mp H
           obtain ⟨t251, A900, H⟩ := H
           have A90 := Aside0.mk A900; clear A900
           by_cases c91 : t251 = true
           ·subst c91
            have H1 : ((galleyref02_in.f t212 128 191).bind fun t252 => (if t252 = true then (some 4) else (if t211 = 244 then ((galleyref02_in.f t212 128 143).bind fun t253 => (if t253 = true then (some 4) else (some 0))) else (some 0)))) = some r := by rw [if_pos rfl] at H; exact H
            clear H; have H := H1; clear H1
            replace H := Option.bind_eq_some_iff.mp H
            obtain ⟨t252, A920, H⟩ := H
            have A92 := Aside0.mk A920; clear A920
            by_cases c93 : t252 = true
            ·subst c93
             have H1 : (some 4) = some r := by rw [if_pos rfl] at H; exact H
             clear H; have H := H1; clear H1
             obtain rfl := Option.some.inj H
             go_wp2_with (first | (go_at_call 48; (with_reducible refine (galleyref02_in.calls t211 241 243 true _ A90.out).mono ?_); rintro e w' ⟨rfl, ⟨nd, rfl⟩⟩) | (go_at_call 48; (with_reducible refine (galleyref02_in.calls t212 128 191 true _ A92.out).mono ?_); rintro e w' ⟨rfl, ⟨nd, rfl⟩⟩))
             go_ret
             exact ⟨by first | rfl | (simp; done) | (simp [*]; done), by repeat (first | exact Drawn0.refl _ | apply Drawn0.step)⟩
            ·replace c93 := Bool.eq_false_iff.mpr c93
             subst c93
             have H1 : (if t211 = 244 then ((galleyref02_in.f t212 128 143).bind fun t253 => (if t253 = true then (some 4) else (some 0))) else (some 0)) = some r := by rw [if_neg (show ¬ (false = true) by decide)] at H; exact H
             clear H; have H := H1; clear H1
             by_cases c94 : t211 = 244
             ·rw [if_pos c94] at H
              have c94b0 : (t211 == 244) = true := beq_iff_eq.mpr c94
              have c94b1 : (t211 != 244) = false := bne_eq_false_iff_eq.mpr c94
              clear c94
              replace H := Option.bind_eq_some_iff.mp H
              obtain ⟨t253, A950, H⟩ := H
              have A95 := Aside0.mk A950; clear A950
              by_cases c96 : t253 = true
              ·subst c96
               have H1 : (some 4) = some r := by rw [if_pos rfl] at H; exact H
               clear H; have H := H1; clear H1
               obtain rfl := Option.some.inj H
               go_wp2_with (first | (go_at_call 48; (with_reducible refine (galleyref02_in.calls t211 241 243 true _ A90.out).mono ?_); rintro e w' ⟨rfl, ⟨nd, rfl⟩⟩) | (go_at_call 48; (with_reducible refine (galleyref02_in.calls t212 128 191 false _ A92.out).mono ?_); rintro e w' ⟨rfl, ⟨nd, rfl⟩⟩) | (go_at_call 48; (with_reducible refine (galleyref02_in.calls t212 128 143 true _ A95.out).mono ?_); rintro e w' ⟨rfl, ⟨nd, rfl⟩⟩))
               go_ret
               exact ⟨by first | rfl | (simp; done) | (simp [*]; done), by repeat (first | exact Drawn0.refl _ | apply Drawn0.step)⟩
              ·replace c96 := Bool.eq_false_iff.mpr c96
               subst c96
               have H1 : (some 0) = some r := by rw [if_neg (show ¬ (false = true) by decide)] at H; exact H
               clear H; have H := H1; clear H1
               obtain rfl := Option.some.inj H
               go_wp2_with (first | (go_at_call 48; (with_reducible refine (galleyref02_in.calls t211 241 243 true _ A90.out).mono ?_); rintro e w' ⟨rfl, ⟨nd, rfl⟩⟩) | (go_at_call 48; (with_reducible refine (galleyref02_in.calls t212 128 191 false _ A92.out).mono ?_); rintro e w' ⟨rfl, ⟨nd, rfl⟩⟩) | (go_at_call 48; (with_reducible refine (galleyref02_in.calls t212 128 143 false _ A95.out).mono ?_); rintro e w' ⟨rfl, ⟨nd, rfl⟩⟩))
               go_ret
               exact ⟨by first | rfl | (simp; done) | (simp [*]; done), by repeat (first | exact Drawn0.refl _ | apply Drawn0.step)⟩
             ·rw [if_neg c94] at H
              have c94b0 : (t211 == 244) = false := beq_eq_false_iff_ne.mpr c94
              have c94b1 : (t211 != 244) = true := bne_iff_ne.mpr c94
              obtain rfl := Option.some.inj H
              go_wp2_with (first | (go_at_call 48; (with_reducible refine (galleyref02_in.calls t211 241 243 true _ A90.out).mono ?_); rintro e w' ⟨rfl, ⟨nd, rfl⟩⟩) | (go_at_call 48; (with_reducible refine (galleyref02_in.calls t212 128 191 false _ A92.out).mono ?_); rintro e w' ⟨rfl, ⟨nd, rfl⟩⟩))
              go_ret
              exact ⟨by first | rfl | (simp; done) | (simp [*]; done), by repeat (first | exact Drawn0.refl _ | apply Drawn0.step)⟩
           ·replace c91 := Bool.eq_false_iff.mpr c91
            subst c91
            have H1 : (if t211 = 244 then ((galleyref02_in.f t212 128 143).bind fun t254 => (if t254 = true then (some 4) else (some 0))) else (some 0)) = some r := by rw [if_neg (show ¬ (false = true) by decide)] at H; exact H
            clear H; have H := H1; clear H1
            by_cases c97 : t211 = 244
            ·rw [if_pos c97] at H
             have c97b0 : (t211 == 244) = true := beq_iff_eq.mpr c97
             have c97b1 : (t211 != 244) = false := bne_eq_false_iff_eq.mpr c97
             clear c97
             replace H := Option.bind_eq_some_iff.mp H
             obtain ⟨t254, A980, H⟩ := H
             have A98 := Aside0.mk A980; clear A980
             by_cases c99 : t254 = true
             ·subst c99
              have H1 : (some 4) = some r := by rw [if_pos rfl] at H; exact H
              clear H; have H := H1; clear H1
              obtain rfl := Option.some.inj H
              go_wp2_with (first | (go_at_call 48; (with_reducible refine (galleyref02_in.calls t211 241 243 false _ A90.out).mono ?_); rintro e w' ⟨rfl, ⟨nd, rfl⟩⟩) | (go_at_call 48; (with_reducible refine (galleyref02_in.calls t212 128 143 true _ A98.out).mono ?_); rintro e w' ⟨rfl, ⟨nd, rfl⟩⟩))
              go_ret
              exact ⟨by first | rfl | (simp; done) | (simp [*]; done), by repeat (first | exact Drawn0.refl _ | apply Drawn0.step)⟩
             ·replace c99 := Bool.eq_false_iff.mpr c99
              subst c99
              have H1 : (some 0) = some r := by rw [if_neg (show ¬ (false = true) by decide)] at H; exact H
              clear H; have H := H1; clear H1
              obtain rfl := Option.some.inj H
              go_wp2_with (first | (go_at_call 48; (with_reducible refine (galleyref02_in.calls t211 241 243 false _ A90.out).mono ?_); rintro e w' ⟨rfl, ⟨nd, rfl⟩⟩) | (go_at_call 48; (with_reducible refine (galleyref02_in.calls t212 128 143 false _ A98.out).mono ?_); rintro e w' ⟨rfl, ⟨nd, rfl⟩⟩))
              go_ret
              exact ⟨by first | rfl | (simp; done) | (simp [*]; done), by repeat (first | exact Drawn0.refl _ | apply Drawn0.step)⟩
            ·rw [if_neg c97] at H
             have c97b0 : (t211 == 244) = false := beq_eq_false_iff_ne.mpr c97
             have c97b1 : (t211 != 244) = true := bne_iff_ne.mpr c97
             obtain rfl := Option.some.inj H
             go_wp2_with (first | (go_at_call 48; (with_reducible refine (galleyref02_in.calls t211 241 243 false _ A90.out).mono ?_); rintro e w' ⟨rfl, ⟨nd, rfl⟩⟩))
             go_ret
             exact ⟨by first | rfl | (simp; done) | (simp [*]; done), by repeat (first | exact Drawn0.refl _ | apply Drawn0.step)⟩
         ·replace c76 := Bool.eq_false_iff.mpr c76
          subst c76
          have H1 : (some 0) = some r := by rw [if_neg (show ¬ (false = true) by decide)] at H; exact H
          clear H; have H := H1; clear H1
          obtain rfl := Option.some.inj H
          go_wp2
          go_ret
          exact ⟨by first | rfl | (simp; done) | (simp [*]; done), by repeat (first | exact Drawn0.refl _ | apply Drawn0.step)⟩
end Go.Proofs.YtaojbcplmdjfnaaDoor.Pr

namespace Go.Proofs.YtaojbcplmdjfnaaDoor.Pr
open Go.RowKit Go.Proofs.YtaojbcplmdjfnaaDoorW.PrintWords Go.Proofs.YtaojbcplmdjfnaaDoorW.PrintLast Go.Proofs.YtaojbcplmdjfnaaDoorW.PrintMore
attribute [local go_sem] max2_int min2_int max_two min_two max_three min_three max_four min_four   -- for this text's walks alone
set_option linter.unusedVariables false
set_option linter.unusedSimpArgs false
def galleyref02_Inside.l0 : Nat → List Int → Int → Int → Option (Bool)
 | 0, _, _, _ => none
 | k + 1, x0, x1, x5 => if x5 ≤ 3 then (if (wrap64 (x1 - x5)) ≥ 0 then ((galleyref02_Long.f k x0 (wrap64 (x1 - x5))).bind fun t255 => (if t255 > x5 then (some true) else (galleyref02_Inside.l0 k x0 x1 (wrap64 (x5 + 1))))) else (galleyref02_Inside.l0 k x0 x1 (wrap64 (x5 + 1)))) else (some false)
def galleyref02_Inside.f (k : Nat) (l0 : List Int) (a1 : Int) : Option (Bool) := galleyref02_Inside.l0 k l0 a1 1
set_option maxHeartbeats 8000000 in
set_option maxRecDepth 100000 in
theorem galleyref02_Inside.calls (k : Nat) (A0 : Option Addr) (c0 : Nat) (l0 : List Int) (a1 : Int) (r : Bool) (w : World) (hr0 : Kd.C (Kd.int .u8) w A0 l0.length l0) (hc0 : l0.length ≤ c0) (h : galleyref02_Inside.f k l0 a1 = some r) :
  Calls Tryd.prog 44 #[.slice A0 l0.length c0, .int .i64 a1] w fun e w' => e = .returned (.bool r) ∧ Drawn0 w w' := by
 have HR0 := Aside0.mk hr0; have HC0 := Aside0.mk hc0; clear hr0 hc0
 have H : (galleyref02_Inside.l0 k l0 a1 1) = some r := h
 clear h; have H' := Aside0.mk H; clear H
 go_enter Tryd.func44, Tryd.ntmps44
 go_wp2
 go_loopg [5] k (fun kq v5 w' => ∃ (x5_1 : Int), v5 = .int .i64 x5_1 ∧ Aside0 (galleyref02_Inside.l0 kq l0 a1 x5_1 = some r) ∧ Aside0 (kq ≤ k) ∧ Drawn0 w w')
 case atStart => exact ⟨(1), (by first | rfl | (simp; done) | (simp [*]; done)), H', ⟨Nat.le_refl _⟩, by repeat (first | exact Drawn0.refl _ | apply Drawn0.step)⟩
 case round =>
  clear H'
  (try clear p2)
  obtain ⟨x5_1, rfl, HA, HK1, ⟨m1, rfl⟩⟩ := hrel
  cases gk with
  | zero => exact absurd HA.out (by simp [galleyref02_Inside.l0])
  | succ k1 =>
   have H := HA.out; clear HA
   simp only [galleyref02_Inside.l0] at H
   by_cases c3 : x5_1 ≤ 3
   ·rw [if_pos c3] at H
    have c3b0 : decide (x5_1 ≤ 3) = true := decide_eq_true c3
    clear c3
    by_cases c4 : (wrap64 (a1 - x5_1)) ≥ 0
    ·rw [if_pos c4] at H
     have c4b0 : decide (0 ≤ (wrap64 (a1 - x5_1))) = true := decide_eq_true c4
     clear c4
     replace H := Option.bind_eq_some_iff.mp H
     obtain ⟨t255, A50, H⟩ := H
     have A5 := Aside0.mk A50; clear A50
     by_cases c6 : t255 > x5_1
     ·rw [if_pos c6] at H
      have c6b0 : decide (x5_1 < t255) = true := decide_eq_true c6
      clear c6
      obtain rfl := Option.some.inj H
      go_wp2_with (first | (go_at_call 42; (with_reducible refine (galleyref02_Long.calls k1 _ _ l0 (wrap64 (a1 - x5_1)) t255 _ ?side1 ?side2 A5.out).mono ?_); (case side1 => repeat (first | exact HR0.out | (with_reducible refine Kd.C_alloc ?_ _) | (with_reducible refine Kd.C_drewN ?_ _) | (with_reducible refine Kd.C_drew ?_))); (case side2 => exact HC0.out); rintro e w' ⟨rfl, ⟨nd, rfl⟩⟩))
      go_ret
      exact ⟨by first | rfl | (simp; done) | (simp [*]; done), by repeat (first | exact Drawn0.refl _ | apply Drawn0.step)⟩
     ·rw [if_neg c6] at H
      have c6b0 : decide (x5_1 < t255) = false := decide_eq_false c6
      clear c6; have H' := Aside0.mk H; clear H
      go_wp2_with (first | (go_at_call 42; (with_reducible refine (galleyref02_Long.calls k1 _ _ l0 (wrap64 (a1 - x5_1)) t255 _ ?side1 ?side2 A5.out).mono ?_); (case side1 => repeat (first | exact HR0.out | (with_reducible refine Kd.C_alloc ?_ _) | (with_reducible refine Kd.C_drewN ?_ _) | (with_reducible refine Kd.C_drew ?_))); (case side2 => exact HC0.out); rintro e w' ⟨rfl, ⟨nd, rfl⟩⟩))
      go_roundg k1
      case measure => have := HK1.out; omega
      case rel => exact ⟨(wrap64 (x5_1 + 1)), (by first | rfl | (simp; done) | (simp [*]; done)), H', ⟨by have := HK1.out; omega⟩, by repeat (first | exact Drawn0.refl _ | apply Drawn0.step)⟩
    ·rw [if_neg c4] at H
     have c4b0 : decide (0 ≤ (wrap64 (a1 - x5_1))) = false := decide_eq_false c4
     clear c4; have H' := Aside0.mk H; clear H
     go_wp2
     go_roundg k1
     case measure => have := HK1.out; omega
     case rel => exact ⟨(wrap64 (x5_1 + 1)), (by first | rfl | (simp; done) | (simp [*]; done)), H', ⟨by have := HK1.out; omega⟩, by repeat (first | exact Drawn0.refl _ | apply Drawn0.step)⟩
   ·rw [if_neg c3] at H
    have c3b0 : decide (x5_1 ≤ 3) = false := decide_eq_false c3
    clear c3
    obtain rfl := Option.some.inj H
    go_wp2
    go_ret
    exact ⟨by first | rfl | (simp; done) | (simp [*]; done), by repeat (first | exact Drawn0.refl _ | apply Drawn0.step)⟩
def galleyref02_Edges.l0 : Nat → List Int → List Int → Int → Option (List Int)
 | 0, _, _, _ => none
 | k + 1, x0, x3, x4 => if x4 ≤ (x0.length : Int) then ((galleyref02_Inside.f k x0 x4).bind fun t256 => (if t256 = true then (galleyref02_Edges.l0 k x0 x3 (wrap64 (x4 + 1))) else (if x3.length < 17592186044416 then (galleyref02_Edges.l0 k x0 (x3 ++ [x4]) (wrap64 (x4 + 1))) else (none)))) else (some x3)
def galleyref02_Edges.f (k : Nat) (l0 : List Int) : Option (List Int) := galleyref02_Edges.l0 k l0 ([] : List Int) 0
set_option maxHeartbeats 8000000 in
set_option maxRecDepth 100000 in
theorem galleyref02_Edges.calls (k : Nat) (A0 : Option Addr) (c0 : Nat) (l0 : List Int) (r : List Int) (w : World) (hr0 : Kd.C (Kd.int .u8) w A0 l0.length l0) (hc0 : l0.length ≤ c0) (h : galleyref02_Edges.f k l0 = some r) :
  Calls Tryd.prog 36 #[.slice A0 l0.length c0] w fun e w' => ∃ v0_ : Value, e = .returned (v0_) ∧ Kd.R (Kd.int .i64) 3 w' w.heap.size (fun _ => True) v0_ r ∧ Below w.heap.size w w' := by
 have HR0 := Aside0.mk hr0; have HC0 := Aside0.mk hc0; clear hr0 hc0
 have HB := Aside0.mk (Below.refl w.heap.size w)
 have H : (galleyref02_Edges.l0 k l0 ([] : List Int) 0) = some r := h
 clear h; have H' := Aside0.mk H; clear H
 go_enter Tryd.func36, Tryd.ntmps36
 go_wp2
 go_loopg [3, 4] k (fun kq v3 v4 w' => ∃ (x3_1 : List Int) (x4_1 : Int), v4 = .int .i64 x4_1 ∧ Aside0 (galleyref02_Edges.l0 kq l0 x3_1 x4_1 = some r) ∧ Aside0 (kq ≤ k) ∧ Aside0 (Kd.R (Kd.int .i64) 3 w' w.heap.size (fun _ => True) v3 x3_1) ∧ Aside0 (Below w.heap.size w w'))
 case atStart => exact ⟨(([] : List Int)), (0), (by first | rfl | (simp; done) | (simp [*]; done)), H', ⟨Nat.le_refl _⟩, ⟨by first | exact Kd.R_nil _ _ _ _ _ | exact Kd.N_nil _ _ _ _ _ | exact Kd.V_nil _ _ _ _ _ | exact Kd.Q_nil _ _ _ _ _ | exact Kd.S_nil _ _ _ _ _⟩, ⟨bl HB.out⟩⟩
 case round =>
  clear H'
  obtain ⟨x3_1, x4_1, rfl, HA, HK1, HO_3, HB⟩ := hrel
  cases gk with
  | zero => exact absurd HA.out (by simp [galleyref02_Edges.l0])
  | succ k1 =>
   have H := HA.out; clear HA
   simp only [galleyref02_Edges.l0] at H
   by_cases c2 : x4_1 ≤ (l0.length : Int)
   ·rw [if_pos c2] at H
    have c2b0 : decide (x4_1 ≤ (l0.length : Int)) = true := decide_eq_true c2
    clear c2
    replace H := Option.bind_eq_some_iff.mp H
    obtain ⟨t256, A30, H⟩ := H
    have A3 := Aside0.mk A30; clear A30
    by_cases c4 : t256 = true
    ·subst c4
     have H1 : (galleyref02_Edges.l0 k1 l0 x3_1 (wrap64 (x4_1 + 1))) = some r := by rw [if_pos rfl] at H; exact H
     clear H; have H := H1; clear H1; have H' := Aside0.mk H; clear H
     go_wp2_with (first | ((with_reducible refine gate_callee (f := 44) rfl ?_); refine goesL_ (some 13) rfl rfl Tryd.func44 (by kernel_rfl) rfl #[.slice A0 l0.length c0, .int .i64 x4_1] rfl (by (try simp only [List.map_toArray, List.map_cons, List.map_nil]); first | done | rfl | (simp only [List.length_drop, List.length_take]; rfl)) ?_; (with_reducible refine (galleyref02_Inside.calls k1 _ _ l0 x4_1 true _ ?side1 ?side2 A3.out).mono ?_); (case side1 => repeat (first | exact (Kd.C_below HR0.out HB.out) | (with_reducible refine Kd.C_alloc ?_ _) | (with_reducible refine Kd.C_drewN ?_ _) | (with_reducible refine Kd.C_drew ?_))); (case side2 => exact HC0.out); rintro e w' ⟨rfl, ⟨nd, rfl⟩⟩; refine ⟨_, rfl, ?_⟩))
     go_roundg k1
     case measure => have := HK1.out; omega
     case rel => exact ⟨(x3_1), (wrap64 (x4_1 + 1)), (by first | rfl | (simp; done) | (simp [*]; done)), H', ⟨by have := HK1.out; omega⟩, ⟨by (with_reducible repeat (first | apply Kd.R_alloc | apply Kd.R_drewN | apply Kd.R_drew)); exact HO_3.out⟩, ⟨bl HB.out⟩⟩
    ·replace c4 := Bool.eq_false_iff.mpr c4
     subst c4
     have H1 : (if x3_1.length < 17592186044416 then (galleyref02_Edges.l0 k1 l0 (x3_1 ++ [x4_1]) (wrap64 (x4_1 + 1))) else (none)) = some r := by rw [if_neg (show ¬ (false = true) by decide)] at H; exact H
     clear H; have H := H1; clear H1
     by_cases c5 : x3_1.length < 17592186044416
     ·rw [if_pos c5] at H
      have LMc5 := Aside0.mk c5; clear c5
      obtain ⟨y257, hy257⟩ : ∃ y_ : List Int, y_ = (x3_1 ++ [x4_1]) := ⟨_, rfl⟩
      replace H : (galleyref02_Edges.l0 k1 l0 y257 (wrap64 (x4_1 + 1))) = some r := by first | (rw [hy257]; with_reducible exact H) | (have H2_ := (Option.bind_some _ _).symm.trans H; rw [hy257]; with_reducible exact H2_) | (have H2_ := (Option.bind_some _ _).symm.trans H; with_reducible exact H2_) | with_reducible exact H | (rw [hy257]; exact H) | exact H
      have Ny257 := Aside0.mk hy257; clear hy257; have H' := Aside0.mk H; clear H
      go_wp2_with (first | ((with_reducible refine gate_callee (f := 44) rfl ?_); refine goesL_ (some 13) rfl rfl Tryd.func44 (by kernel_rfl) rfl #[.slice A0 l0.length c0, .int .i64 x4_1] rfl (by (try simp only [List.map_toArray, List.map_cons, List.map_nil]); first | done | rfl | (simp only [List.length_drop, List.length_take]; rfl)) ?_; (with_reducible refine (galleyref02_Inside.calls k1 _ _ l0 x4_1 false _ ?side1 ?side2 A3.out).mono ?_); (case side1 => repeat (first | exact (Kd.C_below HR0.out HB.out) | (with_reducible refine Kd.C_alloc ?_ _) | (with_reducible refine Kd.C_drewN ?_ _) | (with_reducible refine Kd.C_drew ?_))); (case side2 => exact HC0.out); rintro e w' ⟨rfl, ⟨nd, rfl⟩⟩; refine ⟨_, rfl, ?_⟩) | ((with_reducible refine gate_builtin (b := .append) (xs := #[.tmp 15, .tmp 17]) rfl ?_); at_builtin; refine Kd.R_append (Kd.int .i64) (w0 := w) w.heap.size rfl (.tmp 15) (.tmp 17) 68 3 (.int .i64 0) 8 rfl Tryd.underlying68 info3 rfl (by decide) (by omega) u3 x3_1 x4_1 [.int .i64 x4_1] (fun _ => True) (fun _ => False) rfl rfl ?aP (fun _ hk => hk.elim) ?aF ?aO ?aB ?aS ?aL ?_; (case aP => exact rfl); (case aB => exact (bl HB.out)); (case aF => exact (fun _ _ => trivial)); (case aO => exact (by (with_reducible repeat (first | apply Kd.R_alloc | apply Kd.R_drewN | apply Kd.R_drew)); exact HO_3.out)); (case aS => exact (below_size (bl HB.out))); (case aL => have := LMc5.out; omega); intro v258 w6 ho hb hg hat; rw [← Ny257.out] at ho; replace HB := Aside0.mk (hb); have HO259 := Aside0.mk (ho); clear ho hb hg hat))
      go_roundg k1
      case measure => have := HK1.out; omega
      case rel => exact ⟨(y257), (wrap64 (x4_1 + 1)), (by first | rfl | (simp; done) | (simp [*]; done)), H', ⟨by have := HK1.out; omega⟩, ⟨by (with_reducible repeat (first | apply Kd.R_alloc | apply Kd.R_drewN | apply Kd.R_drew)); exact HO259.out⟩, ⟨bl HB.out⟩⟩
     ·rw [if_neg c5] at H
      exact absurd H (by simp)
   ·rw [if_neg c2] at H
    have c2b0 : decide (x4_1 ≤ (l0.length : Int)) = false := decide_eq_false c2
    clear c2
    obtain rfl := Option.some.inj H
    go_wp2
    go_ret
    exact ⟨_, by first | rfl | (simp [errW_none, errW_some] <;> rfl) | (simp [*, errW_none, errW_some] <;> rfl), by (with_reducible repeat (first | apply Kd.R_alloc | apply Kd.R_drewN | apply Kd.R_drew)); exact HO_3.out, bl HB.out⟩
mutual
def galleyref02_Of.j0 : Nat → List Int → Int → Int → Int → Option (Int × Int × Bool)
 | 0, _, _, _, _ => none
 | k + 1, x0, x1, x5, x6 => galleyref02_Of.l0 k x0 x1 x5 x6 1
def galleyref02_Of.l0 : Nat → List Int → Int → Int → Int → Int → Option (Int × Int × Bool)
 | 0, _, _, _, _, _ => none
 | k + 1, x0, x1, x5, x6, x7 => if x7 < x5 then (if 0 ≤ (wrap64 (x1 + x7)) then (if (wrap64 (x1 + x7)) < (x0.length : Int) then (galleyref02_Of.l0 k x0 x1 x5 (wrap64 ((wrap64 (x6 * 64)) + (Int.tmod (wrap64 (rd x0 (wrap64 (x1 + x7)))) 64))) (wrap64 (x7 + 1))) else (none)) else (none)) else (some (wrap32 (x6), x5, true))
end
def galleyref02_Of.f (k : Nat) (l0 : List Int) (a1 : Int) : Option (Int × Int × Bool) := (galleyref02_Long.f k l0 a1).bind fun t261 => (if t261 = 0 then (some (65533, 1, false)) else (if 0 ≤ a1 then (if a1 < (l0.length : Int) then (if t261 = 2 then (galleyref02_Of.j0 k l0 a1 t261 (Int.tmod (wrap64 (rd l0 a1)) 32)) else (if t261 = 3 then (galleyref02_Of.j0 k l0 a1 t261 (Int.tmod (wrap64 (rd l0 a1)) 16)) else (if t261 = 4 then (galleyref02_Of.j0 k l0 a1 t261 (Int.tmod (wrap64 (rd l0 a1)) 8)) else (galleyref02_Of.j0 k l0 a1 t261 (wrap64 (rd l0 a1)))))) else (none)) else (none)))
set_option maxHeartbeats 8000000 in
set_option maxRecDepth 100000 in
theorem galleyref02_Of.calls (k : Nat) (A0 : Option Addr) (c0 : Nat) (l0 : List Int) (a1 : Int) (r1 : Int) (r2 : Int) (r3 : Bool) (w : World) (hr0 : Kd.C (Kd.int .u8) w A0 l0.length l0) (hc0 : l0.length ≤ c0) (h : galleyref02_Of.f k l0 a1 = some (r1, r2, r3)) :
  Calls Tryd.prog 37 #[.slice A0 l0.length c0, .int .i64 a1] w fun e w' => e = .returned (.agg #[.int .i32 r1, .int .i64 r2, .bool r3]) ∧ Below w.heap.size w w' := by
 have hu57 := Tryd.underlying57
 have HR0 := Aside0.mk hr0; have HC0 := Aside0.mk hc0; clear hr0 hc0
 have HB := Aside0.mk (Below.refl w.heap.size w)
 have H : ((galleyref02_Long.f k l0 a1).bind fun t261 => (if t261 = 0 then (some (65533, 1, false)) else (if 0 ≤ a1 then (if a1 < (l0.length : Int) then (if t261 = 2 then (galleyref02_Of.j0 k l0 a1 t261 (Int.tmod (wrap64 (rd l0 a1)) 32)) else (if t261 = 3 then (galleyref02_Of.j0 k l0 a1 t261 (Int.tmod (wrap64 (rd l0 a1)) 16)) else (if t261 = 4 then (galleyref02_Of.j0 k l0 a1 t261 (Int.tmod (wrap64 (rd l0 a1)) 8)) else (galleyref02_Of.j0 k l0 a1 t261 (wrap64 (rd l0 a1)))))) else (none)) else (none)))) = some (r1, r2, r3) := h
 clear h
 replace H := Option.bind_eq_some_iff.mp H
 obtain ⟨t261, A30, H⟩ := H
 replace H : (if t261 = 0 then (some (65533, 1, false)) else (if 0 ≤ a1 then (if a1 < (l0.length : Int) then (if t261 = 2 then (galleyref02_Of.j0 k l0 a1 t261 (Int.tmod (wrap64 (rd l0 a1)) 32)) else (if t261 = 3 then (galleyref02_Of.j0 k l0 a1 t261 (Int.tmod (wrap64 (rd l0 a1)) 16)) else (if t261 = 4 then (galleyref02_Of.j0 k l0 a1 t261 (Int.tmod (wrap64 (rd l0 a1)) 8)) else (galleyref02_Of.j0 k l0 a1 t261 (wrap64 (rd l0 a1)))))) else (none)) else (none))) = some (r1, r2, r3) := H
 have A3 := Aside0.mk A30; clear A30
 by_cases c4 : t261 = 0
 ·rw [if_pos c4] at H
  have c4b0 : (t261 == 0) = true := beq_iff_eq.mpr c4
  have c4b1 : (t261 != 0) = false := bne_eq_false_iff_eq.mpr c4
  clear c4
  simp only [Option.some.injEq, Prod.mk.injEq] at H
  obtain ⟨rfl, rfl, rfl⟩ := H
  go_enter Tryd.func37, Tryd.ntmps37
  go_wp2_with (first | ((with_reducible refine gate_dst (N := 4) rfl ?_); refine box_event ?hg (N := 4) ?hd (cs := #[.int .i32 0, .int .i64 0, .bool false]) (t := 57) ?hr ?_; (case hd => rfl); (case hg => rfl); (case hr => first | (go_simp; done) | (go_simp; rfl)); intro gb260 hg w5 hbox hb; have BK260 := Aside0.mk (hbox); have GW260 := Aside0.mk ((by rw [hg]; exact (below_size (bl HB.out)) : w.heap.size ≤ gb260)); have GE260 := GW260; replace HB := Aside0.mk (below_step (bl HB.out) hb); clear hb hbox hg) | ((with_reducible refine gate_callee (f := 42) rfl ?_); refine goesL_ (some 10) rfl rfl Tryd.func42 (by kernel_rfl) rfl #[.slice A0 l0.length c0, .int .i64 a1] rfl (by (try simp only [List.map_toArray, List.map_cons, List.map_nil]); first | done | rfl | (simp only [List.length_drop, List.length_take]; rfl)) ?_; (with_reducible refine (galleyref02_Long.calls k _ _ l0 a1 t261 _ ?side1 ?side2 A3.out).mono ?_); (case side1 => repeat (first | exact (Kd.C_below HR0.out HB.out) | (with_reducible refine Kd.C_alloc ?_ _) | (with_reducible refine Kd.C_drewN ?_ _) | (with_reducible refine Kd.C_drew ?_))); (case side2 => exact HC0.out); rintro e w' ⟨rfl, ⟨nd, rfl⟩⟩; refine ⟨_, rfl, ?_⟩; (try (rw [drewN_self w5]; generalize hq_ : World.drewN w5 _ = w5; have n0_ : Aside0 (w5.heap[gb260]? = some (.cells #[.int .i32 0, .int .i64 0, .bool false] 57 (0, 0))) := ⟨by rw [← hq_]; exact (pl BK260.out)⟩; have n1_ : Aside0 (Below w.heap.size w w5) := ⟨by rw [← hq_]; exact (by repeat (first | (with_reducible first | exact HB.out | apply below_alloc | apply pw_below_drewN | apply below_drew1 | refine below_set ?_ GE260.out) | exact HB.out))⟩; clear BK260 HB hq_; have BK260 := n0_; have HB := n1_; clear n0_ n1_)); have hcz6_0 : w5.cell? ⟨gb260, 0, none⟩ = some (.int .i32 0) := (blk_cell BK260.out 0).trans rfl; have hcz6_1 : w5.cell? ⟨gb260, 1, none⟩ = some (.int .i64 0) := (blk_cell BK260.out 1).trans rfl; have hcz6_2 : w5.cell? ⟨gb260, 2, none⟩ = some (.bool false) := (blk_cell BK260.out 2).trans rfl; have hfz6_0 := blk_frozen BK260.out 0; have hfz6_1 := blk_frozen BK260.out 1; have hfz6_2 := blk_frozen BK260.out 2))
  refine bodyPost_ret (results_cell_row rfl _ _ gb260 57 #[.int .i32 65533, .int .i64 1, .bool false] (0, 0) _ rfl (by refine pl ?_; refine blk_put (cs := #[.int .i32 65533, .int .i64 1, .bool false]) ?_ 2 _ rfl; refine pl ?_; refine blk_put (cs := #[.int .i32 65533, .int .i64 0, .bool false]) ?_ 1 _ rfl; refine pl ?_; refine blk_put (cs := #[.int .i32 0, .int .i64 0, .bool false]) ?_ 0 _ rfl; refine pl ?_; exact BK260.out) Tryd.underlying57 rfl (by kernel_rfl)) rfl ?_
  exact ⟨by first | rfl | (simp [errW_none, errW_some] <;> rfl) | (simp [*, errW_none, errW_some] <;> rfl), by repeat (first | (with_reducible first | exact HB.out | apply below_alloc | apply pw_below_drewN | apply below_drew1 | refine below_set ?_ GE260.out) | exact HB.out)⟩
 ·rw [if_neg c4] at H
  have c4b0 : (t261 == 0) = false := beq_eq_false_iff_ne.mpr c4
  have c4b1 : (t261 != 0) = true := bne_iff_ne.mpr c4
  by_cases c7 : 0 ≤ a1
  ·rw [if_pos c7] at H
   have c7b0 : decide (0 ≤ a1) = true := decide_eq_true c7
   clear c7
   by_cases c8 : a1 < (l0.length : Int)
   ·rw [if_pos c8] at H
    have c8b0 : decide (a1 < (l0.length : Int)) = true := decide_eq_true c8
    clear c8; have HC9 := Aside0.mk H; clear H
    go_enter Tryd.func37, Tryd.ntmps37
    go_upto_block 0 with (first | ((with_reducible refine gate_dst (N := 4) rfl ?_); refine box_event ?hg (N := 4) ?hd (cs := #[.int .i32 0, .int .i64 0, .bool false]) (t := 57) ?hr ?_; (case hd => rfl); (case hg => rfl); (case hr => first | (go_simp; done) | (go_simp; rfl)); intro gb260 hg w10 hbox hb; have BK260 := Aside0.mk (hbox); have GW260 := Aside0.mk ((by rw [hg]; exact (below_size (bl HB.out)) : w.heap.size ≤ gb260)); have GE260 := GW260; replace HB := Aside0.mk (below_step (bl HB.out) hb); clear hb hbox hg) | ((with_reducible refine gate_callee (f := 42) rfl ?_); refine goesL_ (some 10) rfl rfl Tryd.func42 (by kernel_rfl) rfl #[.slice A0 l0.length c0, .int .i64 a1] rfl (by (try simp only [List.map_toArray, List.map_cons, List.map_nil]); first | done | rfl | (simp only [List.length_drop, List.length_take]; rfl)) ?_; (with_reducible refine (galleyref02_Long.calls k _ _ l0 a1 t261 _ ?side1 ?side2 A3.out).mono ?_); (case side1 => repeat (first | exact (Kd.C_below HR0.out HB.out) | (with_reducible refine Kd.C_alloc ?_ _) | (with_reducible refine Kd.C_drewN ?_ _) | (with_reducible refine Kd.C_drew ?_))); (case side2 => exact HC0.out); rintro e w' ⟨rfl, ⟨nd, rfl⟩⟩; refine ⟨_, rfl, ?_⟩; have p262 : 0 ≤ (a1 : Int) := of_decide_eq_true (by first | (with_reducible assumption) | assumption); have q262 : a1 < (l0.length : Int) := of_decide_eq_true (by first | (with_reducible assumption) | assumption); obtain ⟨ad262, e262, hx262_0⟩ := Kd.at_int HR0.out a1 p262 q262; cases e262; replace hx262_0 := (HB.out.cell (World.block_lt_of_cell? w _ hx262_0)).trans hx262_0; replace p262 := eq_true p262; replace q262 := eq_true q262))
    (try simp only [Act.put, List.setIfInBounds_toArray, List.set_cons_zero, List.set_cons_succ])
    go_cut [6] (fun v6 wc => ∃ (kq : Nat) (x6_8 : Int), v6 = .int .i64 x6_8 ∧ Aside0 (galleyref02_Of.j0 kq l0 a1 t261 x6_8 = some (r1, r2, r3)) ∧ Aside0 (kq ≤ k) ∧ Aside0 (wc.heap[gb260]? = some (.cells #[.int .i32 0, .int .i64 0, .bool false] 57 (0, 0))) ∧ Aside0 (Below w.heap.size w wc))
    case first =>
     have H := HC9.out; clear HC9
     by_cases c11 : t261 = 2
     ·rw [if_pos c11] at H
      have c11b0 : (t261 == 2) = true := beq_iff_eq.mpr c11
      have c11b1 : (t261 != 2) = false := bne_eq_false_iff_eq.mpr c11
      clear c11
      (first | rw [c11b0] | (simp only [i64_w, i32_w]; rw [c11b0]) | skip)
      have H' := Aside0.mk H; clear H
      go_wp2
      go_meet
      case rel => exact ⟨_, (Int.tmod (wrap64 (rd l0 a1)) 32), (by first | rfl | (simp; done) | (simp [*]; done)), H', ⟨by first | omega | exact Nat.le_refl _⟩, ⟨pl BK260.out⟩, ⟨by repeat (first | (with_reducible first | exact HB.out | apply below_alloc | apply pw_below_drewN | apply below_drew1 | refine below_set ?_ GE260.out) | exact HB.out)⟩⟩
     ·rw [if_neg c11] at H
      have c11b0 : (t261 == 2) = false := beq_eq_false_iff_ne.mpr c11
      have c11b1 : (t261 != 2) = true := bne_iff_ne.mpr c11
      (first | rw [c11b0] | (simp only [i64_w, i32_w]; rw [c11b0]) | skip)
      by_cases c12 : t261 = 3
      ·rw [if_pos c12] at H
       have c12b0 : (t261 == 3) = true := beq_iff_eq.mpr c12
       have c12b1 : (t261 != 3) = false := bne_eq_false_iff_eq.mpr c12
       clear c12; have H' := Aside0.mk H; clear H
       go_wp2
       go_meet
       case rel => exact ⟨_, (Int.tmod (wrap64 (rd l0 a1)) 16), (by first | rfl | (simp; done) | (simp [*]; done)), H', ⟨by first | omega | exact Nat.le_refl _⟩, ⟨pl BK260.out⟩, ⟨by repeat (first | (with_reducible first | exact HB.out | apply below_alloc | apply pw_below_drewN | apply below_drew1 | refine below_set ?_ GE260.out) | exact HB.out)⟩⟩
      ·rw [if_neg c12] at H
       have c12b0 : (t261 == 3) = false := beq_eq_false_iff_ne.mpr c12
       have c12b1 : (t261 != 3) = true := bne_iff_ne.mpr c12
       by_cases c13 : t261 = 4
       ·rw [if_pos c13] at H
        have c13b0 : (t261 == 4) = true := beq_iff_eq.mpr c13
        have c13b1 : (t261 != 4) = false := bne_eq_false_iff_eq.mpr c13
        clear c13; have H' := Aside0.mk H; clear H
        go_wp2
        go_meet
        case rel => exact ⟨_, (Int.tmod (wrap64 (rd l0 a1)) 8), (by first | rfl | (simp; done) | (simp [*]; done)), H', ⟨by first | omega | exact Nat.le_refl _⟩, ⟨pl BK260.out⟩, ⟨by repeat (first | (with_reducible first | exact HB.out | apply below_alloc | apply pw_below_drewN | apply below_drew1 | refine below_set ?_ GE260.out) | exact HB.out)⟩⟩
       ·rw [if_neg c13] at H
        have c13b0 : (t261 == 4) = false := beq_eq_false_iff_ne.mpr c13
        have c13b1 : (t261 != 4) = true := bne_iff_ne.mpr c13
        have H' := Aside0.mk H; clear H
        go_wp2
        go_meet
        case rel => exact ⟨_, (wrap64 (rd l0 a1)), (by first | rfl | (simp; done) | (simp [*]; done)), H', ⟨by first | omega | exact Nat.le_refl _⟩, ⟨pl BK260.out⟩, ⟨by repeat (first | (with_reducible first | exact HB.out | apply below_alloc | apply pw_below_drewN | apply below_drew1 | refine below_set ?_ GE260.out) | exact HB.out)⟩⟩
    case rest =>
     clear HC9; (try clear c1); (try clear p2); (try clear q2); (try clear hx2); (try clear c3); (try clear c4); (try clear c4b0); (try clear c4b1); (try clear p6); (try clear c7); (try clear c7b0); (try clear c8); (try clear c8b0); (try clear c11); (try clear c11b0); (try clear c11b1); (try clear c12); (try clear c12b0); (try clear c12b1); (try clear c13); (try clear c13b0); (try clear c13b1); (try clear hcz6_0); (try clear hcz6_1); (try clear hcz6_2); (try clear hfz6_0); (try clear hfz6_1); (try clear hfz6_2); (try clear hx262_0); (try clear p262); (try clear q262)
     obtain ⟨kq, x6_8, rfl, HA, HJ8, BK260, HB⟩ := hcut
     cases kq with
     | zero => exact absurd HA.out (by simp [galleyref02_Of.j0])
     | succ kj8 =>
      have H := HA.out; clear HA
      simp only [galleyref02_Of.j0] at H
      have H' := Aside0.mk H; clear H
      go_wp2
      go_loopg [6, 7] kj8 (fun kq v6 v7 w' => ∃ (x6_2 : Int) (x7_2 : Int), v6 = .int .i64 x6_2 ∧ v7 = .int .i64 x7_2 ∧ Aside0 (galleyref02_Of.l0 kq l0 a1 t261 x6_2 x7_2 = some (r1, r2, r3)) ∧ Aside0 (kq ≤ kj8) ∧ Aside0 (w'.heap[gb260]? = some (.cells #[.int .i32 0, .int .i64 0, .bool false] 57 (0, 0))) ∧ Aside0 (Below w.heap.size w w'))
      case atStart => exact ⟨(x6_8), (1), (by first | rfl | (simp; done) | (simp [*]; done)), (by first | rfl | (simp; done) | (simp [*]; done)), H', ⟨Nat.le_refl _⟩, ⟨pl BK260.out⟩, ⟨by repeat (first | (with_reducible first | exact HB.out | apply below_alloc | apply pw_below_drewN | apply below_drew1 | refine below_set ?_ GE260.out) | exact HB.out)⟩⟩
      case round =>
       clear H'
       (try clear c1); (try clear p2); (try clear q2); (try clear hx2); (try clear c3); (try clear c4); (try clear c4b0); (try clear c4b1); (try clear p6); (try clear c7); (try clear c7b0); (try clear c8); (try clear c8b0); (try clear c11); (try clear c11b0); (try clear c11b1); (try clear c12); (try clear c12b0); (try clear c12b1); (try clear c13); (try clear c13b0); (try clear c13b1); (try clear hcz6_0); (try clear hcz6_1); (try clear hcz6_2); (try clear hfz6_0); (try clear hfz6_1); (try clear hfz6_2); (try clear hx262_0); (try clear p2); (try clear p262); (try clear p6); (try clear q2); (try clear q262)
       obtain ⟨x6_2, x7_2, rfl, rfl, HA, HK2, BK260, HB⟩ := hrel
       cases gk with
       | zero => exact absurd HA.out (by simp [galleyref02_Of.l0])
       | succ k2 =>
        have H := HA.out; clear HA
        simp only [galleyref02_Of.l0] at H
        by_cases c14 : x7_2 < t261
        ·rw [if_pos c14] at H
         have c14b0 : decide (x7_2 < t261) = true := decide_eq_true c14
         clear c14
         obtain ⟨ji15, hji15⟩ : ∃ j_ : Int, (wrap64 (a1 + x7_2)) = j_ := ⟨_, rfl⟩
         replace H : (if 0 ≤ (ji15) then (if (ji15) < (l0.length : Int) then (galleyref02_Of.l0 k2 l0 a1 t261 (wrap64 ((wrap64 (x6_2 * 64)) + (Int.tmod (wrap64 (rd l0 (ji15))) 64))) (wrap64 (x7_2 + 1))) else (none)) else (none)) = some (r1, r2, r3) := by first | (rw [hji15] at H; exact H) | (simp only [hji15] at H ⊢; exact H)
         have hji15w : (IntKind.i64.wrap (a1 + x7_2)) = ji15 := (i64_w _).trans hji15
         by_cases c16 : 0 ≤ (ji15)
         ·rw [if_pos c16] at H
          have c16b0 : decide (0 ≤ (ji15)) = true := decide_eq_true c16
          clear c16
          by_cases c17 : (ji15) < (l0.length : Int)
          ·rw [if_pos c17] at H
           have c17b0 : decide ((ji15) < (l0.length : Int)) = true := decide_eq_true c17
           clear c17; have H' := Aside0.mk H; clear H
           have p263 : 0 ≤ ((ji15) : Int) := of_decide_eq_true (by first | (with_reducible assumption) | assumption)
           have q263 : (ji15) < (l0.length : Int) := of_decide_eq_true (by first | (with_reducible assumption) | assumption)
           obtain ⟨ad263, e263, hx263_0⟩ := Kd.at_int HR0.out (ji15) p263 q263
           obtain rfl : ad262 = ad263 := (by injection e263)
           replace hx263_0 := (HB.out.cell (World.block_lt_of_cell? w _ hx263_0)).trans hx263_0
           replace p263 := eq_true p263
           replace q263 := eq_true q263
           go_wp2
           go_roundg k2
           case measure => have := HJ8.out; have := HK2.out; omega
           case rel => exact ⟨(wrap64 ((wrap64 (x6_2 * 64)) + (Int.tmod (wrap64 (rd l0 (ji15))) 64))), (wrap64 (x7_2 + 1)), (by first | rfl | (simp; done) | (simp only [← hji15] <;> (first | rfl | simp)) | (simp [*]; done)), (by first | rfl | (simp; done) | (simp [*]; done)), H', ⟨by have := HJ8.out; have := HK2.out; omega⟩, ⟨pl BK260.out⟩, ⟨by repeat (first | (with_reducible first | exact HB.out | apply below_alloc | apply pw_below_drewN | apply below_drew1 | refine below_set ?_ GE260.out) | exact HB.out)⟩⟩
          ·rw [if_neg c17] at H
           exact absurd H (by simp)
         ·rw [if_neg c16] at H
          exact absurd H (by simp)
        ·rw [if_neg c14] at H
         have c14b0 : decide (x7_2 < t261) = false := decide_eq_false c14
         clear c14
         simp only [Option.some.injEq, Prod.mk.injEq] at H
         obtain ⟨rfl, rfl, rfl⟩ := H
         have hcz18_0 : wr.cell? ⟨gb260, 0, none⟩ = some (.int .i32 0) := (blk_cell BK260.out 0).trans rfl
         have hcz18_1 : wr.cell? ⟨gb260, 1, none⟩ = some (.int .i64 0) := (blk_cell BK260.out 1).trans rfl
         have hcz18_2 : wr.cell? ⟨gb260, 2, none⟩ = some (.bool false) := (blk_cell BK260.out 2).trans rfl
         have hfz18_0 := blk_frozen BK260.out 0
         have hfz18_1 := blk_frozen BK260.out 1
         have hfz18_2 := blk_frozen BK260.out 2
         go_wp2
         refine bodyPost_ret (results_cell_row rfl _ _ gb260 57 #[.int .i32 (wrap32 (x6_2)), .int .i64 t261, .bool true] (0, 0) _ rfl (by refine pl ?_; refine blk_put (cs := #[.int .i32 (wrap32 (x6_2)), .int .i64 t261, .bool false]) ?_ 2 _ rfl; refine pl ?_; refine blk_put (cs := #[.int .i32 (wrap32 (x6_2)), .int .i64 0, .bool false]) ?_ 1 _ rfl; refine pl ?_; refine blk_put (cs := #[.int .i32 0, .int .i64 0, .bool false]) ?_ 0 _ rfl; refine pl ?_; exact BK260.out) Tryd.underlying57 rfl (by kernel_rfl)) rfl ?_
         exact ⟨by first | rfl | (simp [errW_none, errW_some] <;> rfl) | (simp [*, errW_none, errW_some] <;> rfl), by repeat (first | (with_reducible first | exact HB.out | apply below_alloc | apply pw_below_drewN | apply below_drew1 | refine below_set ?_ GE260.out) | exact HB.out)⟩
   ·rw [if_neg c8] at H
    exact absurd H (by simp)
  ·rw [if_neg c7] at H
   exact absurd H (by simp)
def galleyref02_Steps.l0 : Nat → List Int → List (S57) → List Int → Int → Option ((List (S57)))
 | 0, _, _, _, _ => none
 | k + 1, x0, x3, x4, x5 => if (wrap64 (x5 + 1)) < (x4.length : Int) then (if 0 ≤ x5 then (if x5 < (x4.length : Int) then ((galleyref02_Of.f k x0 (rd x4 x5)).bind fun bt268 => (if x3.length < 5864062014805 then (galleyref02_Steps.l0 k x0 (x3 ++ [(⟨bt268.1, bt268.2.1, bt268.2.2⟩ : S57)]) x4 (wrap64 (x5 + 1))) else (none))) else (none)) else (none)) else (some x3)
def galleyref02_Steps.f (k : Nat) (l0 : List Int) : Option ((List (S57))) := (galleyref02_Edges.f k l0).bind fun t264 => (galleyref02_Steps.l0 k l0 ([] : List (S57)) t264 0)
set_option maxHeartbeats 8000000 in
set_option maxRecDepth 100000 in
theorem galleyref02_Steps.calls (k : Nat) (A0 : Option Addr) (c0 : Nat) (l0 : List Int) (r : List (S57)) (w : World) (hr0 : Kd.C (Kd.int .u8) w A0 l0.length l0) (hc0 : l0.length ≤ c0) (h : galleyref02_Steps.f k l0 = some r) :
  Calls Tryd.prog 29 #[.slice A0 l0.length c0] w fun e w' => ∃ v0_ : Value, e = .returned (v0_) ∧ Kd.R k57 57 w' w.heap.size (fun _ => True) v0_ r ∧ Below w.heap.size w w' := by
 have HR0 := Aside0.mk hr0; have HC0 := Aside0.mk hc0; clear hr0 hc0
 have HB := Aside0.mk (Below.refl w.heap.size w)
 have H : ((galleyref02_Edges.f k l0).bind fun t264 => (galleyref02_Steps.l0 k l0 ([] : List (S57)) t264 0)) = some r := h
 clear h
 replace H := Option.bind_eq_some_iff.mp H
 obtain ⟨t264, A20, H⟩ := H
 have A2 := Aside0.mk A20; clear A20; have H' := Aside0.mk H; clear H
 go_enter Tryd.func29, Tryd.ntmps29
 go_wp2_with (first | ((with_reducible refine gate_callee (f := 36) rfl ?_); refine goesL_ (some 7) rfl rfl Tryd.func36 (by kernel_rfl) rfl #[.slice A0 l0.length c0] rfl (by (try simp only [List.map_toArray, List.map_cons, List.map_nil]); first | done | rfl | (simp only [List.length_drop, List.length_take]; rfl)) ?_; (with_reducible refine (galleyref02_Edges.calls k _ _ l0 t264 _ ?side1 ?side2 A2.out).mono ?_); (case side1 => repeat (first | exact HR0.out | (with_reducible refine Kd.C_alloc ?_ _) | (with_reducible refine Kd.C_drewN ?_ _) | (with_reducible refine Kd.C_drew ?_))); (case side2 => exact HC0.out); rintro e w3 ⟨v265, rfl, ho0, hb⟩; refine ⟨_, rfl, ?_⟩; have HO266 := Aside0.mk (Kd.R_lower ho0 (below_size (bl HB.out))); replace HB := Aside0.mk (below_step (bl HB.out) hb); (try clear hb); (try clear hb2); (try clear hk); (try clear hi); (try clear ho0)))
 go_loopg [3, 5] k (fun kq v3 v5 w' => ∃ (x3_1 : List (S57)) (x5_1 : Int), v5 = .int .i64 x5_1 ∧ Aside0 (galleyref02_Steps.l0 kq l0 x3_1 t264 x5_1 = some r) ∧ Aside0 (kq ≤ k) ∧ Aside0 (Kd.R k57 57 w' w.heap.size (fun _ => True) v3 x3_1) ∧ Aside0 (Kd.R (Kd.int .i64) 3 w' w.heap.size (fun _ => True) v265 t264) ∧ Aside0 (Below w.heap.size w w'))
 case atStart => exact ⟨(([] : List (S57))), (0), (by first | rfl | (simp; done) | (simp [*]; done)), H', ⟨Nat.le_refl _⟩, ⟨by first | exact Kd.R_nil _ _ _ _ _ | exact Kd.N_nil _ _ _ _ _ | exact Kd.V_nil _ _ _ _ _ | exact Kd.Q_nil _ _ _ _ _ | exact Kd.S_nil _ _ _ _ _⟩, ⟨by (with_reducible repeat (first | apply Kd.R_alloc | apply Kd.R_drewN | apply Kd.R_drew)); exact HO266.out⟩, ⟨bl HB.out⟩⟩
 case round =>
  clear H'
  (try clear c2); (try clear p2); (try clear c3)
  obtain ⟨x3_1, x5_1, rfl, HA, HK1, HO_3, HO_4, HB⟩ := hrel
  cases gk with
  | zero => exact absurd HA.out (by simp [galleyref02_Steps.l0])
  | succ k1 =>
   have H := HA.out; clear HA
   simp only [galleyref02_Steps.l0] at H
   by_cases c4 : (wrap64 (x5_1 + 1)) < (t264.length : Int)
   ·rw [if_pos c4] at H
    have c4b0 : decide ((wrap64 (x5_1 + 1)) < (t264.length : Int)) = true := decide_eq_true c4
    clear c4
    by_cases c5 : 0 ≤ x5_1
    ·rw [if_pos c5] at H
     have c5b0 : decide (0 ≤ x5_1) = true := decide_eq_true c5
     clear c5
     by_cases c6 : x5_1 < (t264.length : Int)
     ·rw [if_pos c6] at H
      have c6b0 : decide (x5_1 < (t264.length : Int)) = true := decide_eq_true c6
      clear c6
      replace H := Option.bind_eq_some_iff.mp H
      obtain ⟨⟨t268, t269, t270⟩, A70, H⟩ := H
      have A7 := Aside0.mk A70; clear A70
      by_cases c8 : x3_1.length < 5864062014805
      ·rw [if_pos c8] at H
       have LMc8 := Aside0.mk c8; clear c8
       obtain ⟨y271, hy271⟩ : ∃ y_ : List (S57), y_ = (x3_1 ++ [(⟨t268, t269, t270⟩ : S57)]) := ⟨_, rfl⟩
       replace H : (galleyref02_Steps.l0 k1 l0 y271 t264 (wrap64 (x5_1 + 1))) = some r := by first | (rw [hy271]; with_reducible exact H) | (have H2_ := (Option.bind_some _ _).symm.trans H; rw [hy271]; with_reducible exact H2_) | (have H2_ := (Option.bind_some _ _).symm.trans H; with_reducible exact H2_) | with_reducible exact H | (rw [hy271]; exact H) | exact H
       have Ny271 := Aside0.mk hy271; clear hy271; have H' := Aside0.mk H; clear H
       obtain ⟨Ao9, co9, eo9⟩ := Kd.R_slice HO_4.out
       subst eo9
       have p267 : 0 ≤ (x5_1 : Int) := of_decide_eq_true (by first | (with_reducible assumption) | assumption)
       have q267 : x5_1 < (t264.length : Int) := of_decide_eq_true (by first | (with_reducible assumption) | assumption)
       obtain ⟨ad267, e267, hx267_0⟩ := Kd.at_int (Kd.R_reads' HO_4.out).2.2 x5_1 p267 q267
       cases e267
       replace p267 := eq_true p267
       replace q267 := eq_true q267
       go_wp2_with (first | ((with_reducible refine gate_callee (f := 37) rfl ?_); refine goesL_ (some 21) rfl rfl Tryd.func37 (by kernel_rfl) rfl #[.slice A0 l0.length c0, .int .i64 (rd t264 x5_1)] rfl (by (try simp only [List.map_toArray, List.map_cons, List.map_nil]); first | done | rfl | (simp only [List.length_drop, List.length_take]; rfl)) ?_; (with_reducible refine (galleyref02_Of.calls k1 _ _ l0 (rd t264 x5_1) t268 t269 t270 _ ?side1 ?side2 A7.out).mono ?_); (case side1 => repeat (first | exact (Kd.C_below HR0.out HB.out) | (with_reducible refine Kd.C_alloc ?_ _) | (with_reducible refine Kd.C_drewN ?_ _) | (with_reducible refine Kd.C_drew ?_))); (case side2 => exact HC0.out); rintro e w10 ⟨rfl, hb⟩; refine ⟨_, rfl, ?_⟩; replace HO_3 := Aside0.mk (Kd.R_below (by (with_reducible repeat (first | apply Kd.R_alloc | apply Kd.R_drewN | apply Kd.R_drew)); exact HO_3.out) hb); replace HO_4 := Aside0.mk (Kd.R_below (by (with_reducible repeat (first | apply Kd.R_alloc | apply Kd.R_drewN | apply Kd.R_drew)); exact HO_4.out) hb); replace HB := Aside0.mk (below_step (bl HB.out) hb); (try clear hb); (try clear hb2); (try clear hk); (try clear hi)) | ((with_reducible refine gate_builtin (b := .append) (xs := #[.tmp 15, .tmp 22]) rfl ?_); at_builtin; refine Kd.R_append k57 (w0 := w) w.heap.size rfl (.tmp 15) (.tmp 22) 60 57 (.agg #[(.int .i32 0), (.int .i64 0), (.bool false)]) 24 rfl Tryd.underlying60 info57 rfl (by decide) (by omega) u3 x3_1 (⟨t268, t269, t270⟩ : S57) [.int .i32 t268, .int .i64 t269, .bool t270] (fun _ => True) (fun _ => False) rfl rfl ?aP (fun _ hk => hk.elim) ?aF ?aO ?aB ?aS ?aL ?_; (case aP => exact k57_mkM _ _ _ (⟨t268, t269, t270⟩ : S57)); (case aB => exact (bl HB.out)); (case aF => exact (fun _ _ => trivial)); (case aO => exact (by (with_reducible repeat (first | apply Kd.R_alloc | apply Kd.R_drewN | apply Kd.R_drew)); exact HO_3.out)); (case aS => exact (below_size (bl HB.out))); (case aL => have := LMc8.out; omega); intro v272 w11 ho hb hg hat; rw [← Ny271.out] at ho; replace HO_4 := Aside0.mk (Kd.R_over' (by (with_reducible repeat (first | apply Kd.R_alloc | apply Kd.R_drewN | apply Kd.R_drew)); exact HO_4.out) (Kd.R_typed (by (with_reducible repeat (first | apply Kd.R_alloc | apply Kd.R_drewN | apply Kd.R_drew)); exact HO_3.out)) (by decide) hg); replace HB := Aside0.mk (hb); have HO273 := Aside0.mk (ho); clear ho hb hg hat))
       go_roundg k1
       case measure => have := HK1.out; omega
       case rel => exact ⟨(y271), (wrap64 (x5_1 + 1)), (by first | rfl | (simp; done) | (simp [*]; done)), H', ⟨by have := HK1.out; omega⟩, ⟨by (with_reducible repeat (first | apply Kd.R_alloc | apply Kd.R_drewN | apply Kd.R_drew)); exact HO273.out⟩, ⟨by (with_reducible repeat (first | apply Kd.R_alloc | apply Kd.R_drewN | apply Kd.R_drew)); exact HO_4.out⟩, ⟨bl HB.out⟩⟩
      ·rw [if_neg c8] at H
       exact absurd H (by simp)
     ·rw [if_neg c6] at H
      exact absurd H (by simp)
    ·rw [if_neg c5] at H
     exact absurd H (by simp)
   ·rw [if_neg c4] at H
    have c4b0 : decide ((wrap64 (x5_1 + 1)) < (t264.length : Int)) = false := decide_eq_false c4
    clear c4
    obtain rfl := Option.some.inj H
    obtain ⟨Ao12, co12, eo12⟩ := Kd.R_slice HO_4.out
    subst eo12
    go_wp2
    go_ret
    exact ⟨_, by first | rfl | (simp [errW_none, errW_some] <;> rfl) | (simp [*, errW_none, errW_some] <;> rfl), by (with_reducible repeat (first | apply Kd.R_alloc | apply Kd.R_drewN | apply Kd.R_drew)); exact HO_3.out, bl HB.out⟩
def galleyref05_units.f (a0_0 : Int) (a0_1 : Int) (a0_2 : Bool) : Option (Int) := if a0_0 > 65535 then (some 2) else (some 1)
set_option maxHeartbeats 8000000 in
set_option maxRecDepth 100000 in
theorem galleyref05_units.calls (a0_0 : Int) (a0_1 : Int) (a0_2 : Bool) (r : Int) (w : World) (h : galleyref05_units.f a0_0 a0_1 a0_2 = some r) :
  Calls Tryd.prog 30 #[.agg #[.int .i32 a0_0, .int .i64 a0_1, .bool a0_2]] w fun e w' => e = .returned (.int .i64 r) ∧ Below w.heap.size w w' := by
 have hu57 := Tryd.underlying57
 have HB := Aside0.mk (Below.refl w.heap.size w)
 have H : (if a0_0 > 65535 then (some 2) else (some 1)) = some r := h
 clear h
 by_cases c2 : a0_0 > 65535
 ·rw [if_pos c2] at H
  have c2b0 : decide (65535 < a0_0) = true := decide_eq_true c2
  clear c2
  obtain rfl := Option.some.inj H
  go_enter Tryd.func30, Tryd.ntmps30
  go_wp2_with (first | ((with_reducible refine gate_dst (N := 1) rfl ?_); refine box_event ?hg (N := 1) ?hd (cs := #[.int .i32 a0_0, .int .i64 a0_1, .bool a0_2]) (t := 57) ?hr ?_; (case hd => rfl); (case hg => rfl); (case hr => first | (go_simp; done) | (go_simp; rfl)); intro gb274 hg w3 hbox hb; have BK274 := Aside0.mk (hbox); have GW274 := Aside0.mk ((by rw [hg]; exact (below_size (bl HB.out)) : w.heap.size ≤ gb274)); have GE274 := GW274; replace HB := Aside0.mk (below_step (bl HB.out) hb); clear hb hbox hg; have hcz4_0 : w3.cell? ⟨gb274, 0, none⟩ = some (.int .i32 a0_0) := (blk_cell BK274.out 0).trans rfl; have hcz4_1 : w3.cell? ⟨gb274, 1, none⟩ = some (.int .i64 a0_1) := (blk_cell BK274.out 1).trans rfl; have hcz4_2 : w3.cell? ⟨gb274, 2, none⟩ = some (.bool a0_2) := (blk_cell BK274.out 2).trans rfl; have hfz4_0 := blk_frozen BK274.out 0; have hfz4_1 := blk_frozen BK274.out 1; have hfz4_2 := blk_frozen BK274.out 2))
  go_ret
  exact ⟨by first | rfl | (simp [errW_none, errW_some] <;> rfl) | (simp [*, errW_none, errW_some] <;> rfl), by repeat (first | (with_reducible first | exact HB.out | apply below_alloc | apply pw_below_drewN | apply below_drew1 | refine below_set ?_ GE274.out) | exact HB.out)⟩
 ·rw [if_neg c2] at H
  have c2b0 : decide (65535 < a0_0) = false := decide_eq_false c2
  clear c2
  obtain rfl := Option.some.inj H
  go_enter Tryd.func30, Tryd.ntmps30
  go_wp2_with (first | ((with_reducible refine gate_dst (N := 1) rfl ?_); refine box_event ?hg (N := 1) ?hd (cs := #[.int .i32 a0_0, .int .i64 a0_1, .bool a0_2]) (t := 57) ?hr ?_; (case hd => rfl); (case hg => rfl); (case hr => first | (go_simp; done) | (go_simp; rfl)); intro gb274 hg w5 hbox hb; have BK274 := Aside0.mk (hbox); have GW274 := Aside0.mk ((by rw [hg]; exact (below_size (bl HB.out)) : w.heap.size ≤ gb274)); have GE274 := GW274; replace HB := Aside0.mk (below_step (bl HB.out) hb); clear hb hbox hg; have hcz6_0 : w5.cell? ⟨gb274, 0, none⟩ = some (.int .i32 a0_0) := (blk_cell BK274.out 0).trans rfl; have hcz6_1 : w5.cell? ⟨gb274, 1, none⟩ = some (.int .i64 a0_1) := (blk_cell BK274.out 1).trans rfl; have hcz6_2 : w5.cell? ⟨gb274, 2, none⟩ = some (.bool a0_2) := (blk_cell BK274.out 2).trans rfl; have hfz6_0 := blk_frozen BK274.out 0; have hfz6_1 := blk_frozen BK274.out 1; have hfz6_2 := blk_frozen BK274.out 2))
  go_ret
  exact ⟨by first | rfl | (simp [errW_none, errW_some] <;> rfl) | (simp [*, errW_none, errW_some] <;> rfl), by repeat (first | (with_reducible first | exact HB.out | apply below_alloc | apply pw_below_drewN | apply below_drew1 | refine below_set ?_ GE274.out) | exact HB.out)⟩
end Go.Proofs.YtaojbcplmdjfnaaDoor.Pr

namespace Go.Proofs.YtaojbcplmdjfnaaDoor.Pr
open Go.RowKit Go.Proofs.YtaojbcplmdjfnaaDoorW.PrintWords Go.Proofs.YtaojbcplmdjfnaaDoorW.PrintLast Go.Proofs.YtaojbcplmdjfnaaDoorW.PrintMore
attribute [local go_sem] max2_int min2_int max_two min_two max_three min_three max_four min_four   -- for this text's walks alone
set_option linter.unusedVariables false
set_option linter.unusedSimpArgs false
mutual
def galleyref05_Sizes.l0 : Nat → List Int → List (S57) → Int → Int → Int → Int → Int → Option (Int × Int × Int × Int)
 | 0, _, _, _, _, _, _, _ => none
 | k + 1, x0, x4, x5, x277000, x277001, x277002, x277003 => if x5 < (x4.length : Int) then (if 0 ≤ x5 then ((galleyref05_units.f ((rd_T57 x4 x5).f0) ((rd_T57 x4 x5).f1) ((rd_T57 x4 x5).f2)).bind fun t281 => (galleyref05_Sizes.l0 k x0 x4 (wrap64 (x5 + 1)) x277000 (wrap64 (x277001 + 1)) (wrap64 (x277002 + t281)) x277003)) else (none)) else (galleyref05_Sizes.l1 k x0 0 x277000 x277001 x277002 x277003)
def galleyref05_Sizes.l1 : Nat → List Int → Int → Int → Int → Int → Int → Option (Int × Int × Int × Int)
 | 0, _, _, _, _, _, _ => none
 | k + 1, x0, x6, x277000, x277001, x277002, x277003 => if x6 < (x0.length : Int) then (if 0 ≤ x6 then (if (rd x0 x6) = 10 then (if x6 = 0 then (galleyref05_Sizes.l1 k x0 (wrap64 (x6 + 1)) x277000 x277001 x277002 (wrap64 (x277003 + 1))) else (if 0 ≤ (wrap64 (x6 - 1)) then (if (wrap64 (x6 - 1)) < (x0.length : Int) then (if (rd x0 (wrap64 (x6 - 1))) = 13 then (if (rd x0 x6) = 13 then (galleyref05_Sizes.l1 k x0 (wrap64 (x6 + 1)) x277000 x277001 x277002 (wrap64 (x277003 + 1))) else (galleyref05_Sizes.l1 k x0 (wrap64 (x6 + 1)) x277000 x277001 x277002 x277003)) else (galleyref05_Sizes.l1 k x0 (wrap64 (x6 + 1)) x277000 x277001 x277002 (wrap64 (x277003 + 1)))) else (none)) else (none))) else (if (rd x0 x6) = 13 then (galleyref05_Sizes.l1 k x0 (wrap64 (x6 + 1)) x277000 x277001 x277002 (wrap64 (x277003 + 1))) else (galleyref05_Sizes.l1 k x0 (wrap64 (x6 + 1)) x277000 x277001 x277002 x277003))) else (none)) else (some (x277000, x277001, x277002, x277003))
end
def galleyref05_Sizes.f (k : Nat) (l0 : List Int) : Option (Int × Int × Int × Int) := (galleyref02_Steps.f k l0).bind fun t277 => (galleyref05_Sizes.l0 k l0 t277 0 (l0.length : Int) 0 0 0)
def galleyref05_Sizes.T7 : Bool × List (List Nat × List Nat) := (true, [([], []), ([0], [0]), ([], []), ([], []), ([2, 3], [2, 3]), ([4], [4]), ([5], [5]), ([1, 6], [1, 6]), ([0, 1, 2, 3, 4, 5, 6, 7], []), ([8, 7, 6, 0, 1, 2, 3, 4, 5, 6, 7], [7, 8])])
def galleyref05_Sizes.B7 : List Nat := [0, 1, 0, 0, 12, 28, 60, 127, 255, 511]
theorem galleyref05_Sizes.tab7 : rtab .any (opsOf Tryd.f15 7) = galleyref05_Sizes.T7 := by kernel_rfl
theorem galleyref05_Sizes.bits7 : waitsOk galleyref05_Sizes.T7.2 galleyref05_Sizes.B7 = true := by kernel_rfl
set_option maxHeartbeats 8000000 in
set_option maxRecDepth 100000 in
theorem galleyref05_Sizes.calls (k : Nat) (A0 : Option Addr) (c0 : Nat) (l0 : List Int) (r1 : Int) (r2 : Int) (r3 : Int) (r4 : Int) (w : World) (hr0 : Kd.C (Kd.int .u8) w A0 l0.length l0) (hc0 : l0.length ≤ c0) (h : galleyref05_Sizes.f k l0 = some (r1, r2, r3, r4)) :
  Calls Tryd.prog 15 #[.slice A0 l0.length c0] w fun e w' => e = .returned (.agg #[.int .i64 r1, .int .i64 r2, .int .i64 r3, .int .i64 r4]) ∧ Below w.heap.size w w' := by
 have hu24 := Tryd.underlying24
 have hu57 := Tryd.underlying57
 have HR0 := Aside0.mk hr0; have HC0 := Aside0.mk hc0; clear hr0 hc0
 have HB := Aside0.mk (Below.refl w.heap.size w)
 have H : ((galleyref02_Steps.f k l0).bind fun t277 => (galleyref05_Sizes.l0 k l0 t277 0 (l0.length : Int) 0 0 0)) = some (r1, r2, r3, r4) := h
 clear h
 replace H := Option.bind_eq_some_iff.mp H
 obtain ⟨t277, A20, H⟩ := H
 replace H : (galleyref05_Sizes.l0 k l0 t277 0 (l0.length : Int) 0 0 0) = some (r1, r2, r3, r4) := H
 have A2 := Aside0.mk A20; clear A20; have H' := Aside0.mk H; clear H
 go_enter Tryd.func15, Tryd.ntmps15
 go_wp2_with (first | ((with_reducible refine gate_dst (N := 2) rfl ?_); refine box_event ?hg (N := 2) ?hd (cs := #[.int .i64 0, .int .i64 0, .int .i64 0, .int .i64 0]) (t := 24) ?hr ?_; (case hd => rfl); (case hg => rfl); (case hr => first | (go_simp; done) | (go_simp; rfl)); intro gb275 hg w3 hbox hb; have BK275 := Aside0.mk (hbox); have GW275 := Aside0.mk ((by rw [hg]; exact (below_size (bl HB.out)) : w.heap.size ≤ gb275)); have GE275 := GW275; replace HB := Aside0.mk (below_step (bl HB.out) hb); clear hb hbox hg) | ((with_reducible refine gate_dst (N := 3) rfl ?_); refine box_event ?hg (N := 3) ?hd (cs := #[.int .i64 0, .int .i64 0, .int .i64 0, .int .i64 0]) (t := 24) ?hr ?_; (case hd => rfl); (case hg => rfl); (case hr => first | (go_simp; done) | (go_simp; rfl)); intro gb276 hg w4 hbox hb; have BK276 := Aside0.mk (hbox); have GW276 := Aside0.mk ((by rw [hg]; exact (below_size (by repeat (first | (with_reducible first | exact HB.out | apply below_alloc | apply pw_below_drewN | apply below_drew1 | refine below_set ?_ GE275.out) | exact HB.out))) : w.heap.size ≤ gb276)); have GE276 := GW276; replace HB := Aside0.mk (below_step (by repeat (first | (with_reducible first | exact HB.out | apply below_alloc | apply pw_below_drewN | apply below_drew1 | refine below_set ?_ GE275.out) | exact HB.out)) hb); obtain ⟨NB275_276, NB276_275⟩ := nbp hg (pl BK275.out); replace BK275 := Aside0.mk (blk_below (pl BK275.out) hb); clear hb hbox hg; have hnb5 := NB276_275.out; have hnc5 := NB275_276.out; obtain ⟨hcz6_0, hcz6_1, hcz6_2, hcz6_3⟩ := c4 BK276.out; obtain ⟨hfz6_0, hfz6_1, hfz6_2, hfz6_3⟩ := f4 BK276.out) | ((with_reducible refine gate_callee (f := 29) rfl ?_); refine goesL_ (some 11) rfl rfl Tryd.func29 (by kernel_rfl) rfl #[.slice A0 l0.length c0] rfl (by (try simp only [List.map_toArray, List.map_cons, List.map_nil]); first | done | rfl | (simp only [List.length_drop, List.length_take]; rfl)) ?_; (with_reducible refine (galleyref02_Steps.calls k _ _ l0 t277 _ ?side1 ?side2 A2.out).mono ?_); (case side1 => exact Kd.C_below HR0.out (by repeat (first | (with_reducible first | exact HB.out | apply below_alloc | apply pw_below_drewN | apply below_drew1 | refine below_set ?_ GE275.out | refine below_set ?_ GE276.out) | exact HB.out))); (case side2 => exact HC0.out); rintro e w7 ⟨v278, rfl, ho0, hb⟩; refine ⟨_, rfl, ?_⟩; have HO279 := Aside0.mk (Kd.R_lower ho0 (below_size (by repeat (first | (with_reducible first | exact HB.out | apply below_alloc | apply pw_below_drewN | apply below_drew1 | refine below_set ?_ GE275.out | refine below_set ?_ GE276.out) | exact HB.out)))); replace BK275 := Aside0.mk (blk_below (g := gb275) (o := .cells #[.int .i64 0, .int .i64 0, .int .i64 0, .int .i64 0] 24 (0, 0)) (by refine pl ?_; refine blk_far ?_ NB275_276.out _; refine pl ?_; refine blk_far ?_ NB275_276.out _; refine pl ?_; refine blk_far ?_ NB275_276.out _; refine pl ?_; refine blk_far ?_ NB275_276.out _; refine pl ?_; exact BK275.out) hb); replace BK276 := Aside0.mk (blk_below (g := gb276) (o := .cells #[.int .i64 (l0.length : Int), .int .i64 0, .int .i64 0, .int .i64 0] 24 (0, 0)) (by refine pl ?_; refine blk_put (cs := #[.int .i64 (l0.length : Int), .int .i64 0, .int .i64 0, .int .i64 0]) ?_ 3 _ rfl; refine pl ?_; refine blk_put (cs := #[.int .i64 (l0.length : Int), .int .i64 0, .int .i64 0, .int .i64 0]) ?_ 2 _ rfl; refine pl ?_; refine blk_put (cs := #[.int .i64 (l0.length : Int), .int .i64 0, .int .i64 0, .int .i64 0]) ?_ 1 _ rfl; refine pl ?_; refine blk_put (cs := #[.int .i64 0, .int .i64 0, .int .i64 0, .int .i64 0]) ?_ 0 _ rfl; refine pl ?_; exact BK276.out) hb); replace HB := Aside0.mk (below_step (by repeat (first | (with_reducible first | exact HB.out | apply below_alloc | apply pw_below_drewN | apply below_drew1 | refine below_set ?_ GE275.out | refine below_set ?_ GE276.out) | exact HB.out)) hb); (try clear hb); (try clear hb2); (try clear hk); (try clear hi); (try clear ho0)))
 go_loopg [5] k (fun kq v5 w' => ∃ (x5_1 : Int) (x277001_1 : Int) (x277002_1 : Int), v5 = .int .i64 x5_1 ∧ Aside0 (galleyref05_Sizes.l0 kq l0 t277 x5_1 (l0.length : Int) x277001_1 x277002_1 0 = some (r1, r2, r3, r4)) ∧ Aside0 (kq ≤ k) ∧ Aside0 (Kd.R k57 57 w' w.heap.size (fun _ => True) v278 t277) ∧ Aside0 (w'.heap[gb275]? = some (.cells #[.int .i64 0, .int .i64 0, .int .i64 0, .int .i64 0] 24 (0, 0))) ∧ Aside0 (w'.heap[gb276]? = some (.cells #[.int .i64 (l0.length : Int), .int .i64 x277001_1, .int .i64 x277002_1, .int .i64 0] 24 (0, 0))) ∧ Aside0 (Below w.heap.size w w'))
 case atStart => exact ⟨(0), (0), (0), (by first | rfl | (simp; done) | (simp [*]; done)), H', ⟨Nat.le_refl _⟩, ⟨by (with_reducible repeat (first | apply Kd.R_alloc | apply Kd.R_drewN | apply Kd.R_drew)); exact HO279.out⟩, ⟨pl BK275.out⟩, ⟨pl BK276.out⟩, ⟨by repeat (first | (with_reducible first | exact HB.out | apply below_alloc | apply pw_below_drewN | apply below_drew1 | refine below_set ?_ GE275.out | refine below_set ?_ GE276.out) | exact HB.out)⟩⟩
 case round =>
  clear H'
  (try clear c1); (try clear c2); (try clear p2); (try clear c5); (try clear hcz6_0); (try clear hcz6_1); (try clear hcz6_2); (try clear hcz6_3); (try clear hfz6_0); (try clear hfz6_1); (try clear hfz6_2); (try clear hfz6_3)
  obtain ⟨x5_1, x277001_1, x277002_1, rfl, HA, HK1, HO_4, BK275, BK276, HB⟩ := hrel
  cases gk with
  | zero => exact absurd HA.out (by simp [galleyref05_Sizes.l0])
  | succ k1 =>
   have H := HA.out; clear HA
   simp only [galleyref05_Sizes.l0] at H
   by_cases c8 : x5_1 < (t277.length : Int)
   ·rw [if_pos c8] at H
    have c8b0 : decide (x5_1 < (t277.length : Int)) = true := decide_eq_true c8
    clear c8
    by_cases c9 : 0 ≤ x5_1
    ·rw [if_pos c9] at H
     have c9b0 : decide (0 ≤ x5_1) = true := decide_eq_true c9
     clear c9
     replace H := Option.bind_eq_some_iff.mp H
     obtain ⟨t281, A100, H⟩ := H
     replace H : (galleyref05_Sizes.l0 k1 l0 t277 (wrap64 (x5_1 + 1)) (l0.length : Int) (wrap64 (x277001_1 + 1)) (wrap64 (x277002_1 + t281)) 0) = some (r1, r2, r3, r4) := H
     have A10 := Aside0.mk A100; clear A100; have H' := Aside0.mk H; clear H
     obtain ⟨Ao11, co11, eo11⟩ := Kd.R_slice HO_4.out
     subst eo11
     have hnb12 := NB276_275.out; have hnc12 := NB275_276.out; obtain ⟨hcz13_0, hcz13_1, hcz13_2, hcz13_3⟩ := c4 BK276.out; obtain ⟨hfz13_0, hfz13_1, hfz13_2, hfz13_3⟩ := f4 BK276.out
     try go_wp2
     have n0_ : Aside0 (Kd.R k57 57 (wr.setCell ⟨gb276, 1, none⟩ (.int .i64 (wrap64 (x277001_1 + 1)))) w.heap.size (fun _ => True) (.slice Ao11 t277.length co11) t277) := ⟨by (with_reducible repeat (first | apply Kd.R_alloc | apply Kd.R_drewN | apply Kd.R_drew)); exact Kd.R_mono (Kd.R_far (p := ⟨gb276, 1, none⟩) (Kd.R_types HO_4.out BK276.out (by decide)) (fun _ hk => hk.2) (.int .i64 (wrap64 (x277001_1 + 1)))) (fun _ hk => trivial)⟩
     have n1_ : Aside0 ((wr.setCell ⟨gb276, 1, none⟩ (.int .i64 (wrap64 (x277001_1 + 1)))).heap[gb275]? = some (.cells #[.int .i64 0, .int .i64 0, .int .i64 0, .int .i64 0] 24 (0, 0))) := ⟨by refine pl ?_; refine blk_far ?_ NB275_276.out _; refine pl ?_; exact BK275.out⟩
     have n2_ : Aside0 ((wr.setCell ⟨gb276, 1, none⟩ (.int .i64 (wrap64 (x277001_1 + 1)))).heap[gb276]? = some (.cells #[.int .i64 (l0.length : Int), .int .i64 (wrap64 (x277001_1 + 1)), .int .i64 x277002_1, .int .i64 0] 24 (0, 0))) := ⟨by refine pl ?_; refine blk_put (cs := #[.int .i64 (l0.length : Int), .int .i64 x277001_1, .int .i64 x277002_1, .int .i64 0]) ?_ 1 _ rfl; refine pl ?_; exact BK276.out⟩
     have n3_ : Aside0 (Below w.heap.size w (wr.setCell ⟨gb276, 1, none⟩ (.int .i64 (wrap64 (x277001_1 + 1))))) := ⟨by repeat (first | (with_reducible first | exact HB.out | apply below_alloc | apply pw_below_drewN | apply below_drew1 | refine below_set ?_ GE275.out | refine below_set ?_ GE276.out) | exact HB.out)⟩
     (try clear HO_4)
     (try clear BK275)
     (try clear BK276)
     (try clear HB)
     generalize (wr.setCell ⟨gb276, 1, none⟩ (.int .i64 (wrap64 (x277001_1 + 1)))) = w14 at n0_ n1_ n2_ n3_ ⊢
     have HO_4 := n0_; have BK275 := n1_; have BK276 := n2_; have HB := n3_; clear n0_ n1_ n2_ n3_
     replace HO_4 := Aside0.mk (Kd.R_drew HO_4.out); replace BK275 := Aside0.mk (blk_drew BK275.out); replace BK276 := Aside0.mk (blk_drew BK276.out); replace HB := Aside0.mk (below_drew1 HB.out)
     have p280 : 0 ≤ (x5_1 : Int) := of_decide_eq_true (by first | (with_reducible assumption) | assumption)
     have q280 : x5_1 < (t277.length : Int) := of_decide_eq_true (by first | (with_reducible assumption) | assumption)
     obtain ⟨ad280, e280, hx280_0, hx280_1, hx280_2⟩ := at_T57 (Kd.R_reads' HO_4.out).2.2 x5_1 p280 q280
     cases e280
     replace p280 := eq_true p280
     replace q280 := eq_true q280
     refine start_ (n := 10) (S := fun w' => w'.cell? ⟨gb276, 0, none⟩ = some (.int .i64 (l0.length : Int)) ∧ w'.cell? ⟨gb276, 1, none⟩ = some (.int .i64 (wrap64 (x277001_1 + 1))) ∧ w'.cell? ⟨gb276, 2, none⟩ = some (.int .i64 x277002_1) ∧ w'.cell? ⟨gb276, 3, none⟩ = some (.int .i64 0) ∧ w'.cell? (ad280.add ((x5_1).toNat * 3)) = some (.int .i32 ((rd_T57 t277 x5_1).f0)) ∧ w'.cell? ⟨(ad280.add ((x5_1).toNat * 3)).block, (ad280.add ((x5_1).toNat * 3)).off + 1, none⟩ = some (.int .i64 ((rd_T57 t277 x5_1).f1)) ∧ w'.cell? ⟨(ad280.add ((x5_1).toNat * 3)).block, (ad280.add ((x5_1).toNat * 3)).off + 2, none⟩ = some (.bool ((rd_T57 t277 x5_1).f2))) (ds := [9]) #[false, false, false, false, false, false, false, false, false, false] (by kernel_rfl) rfl rfl ⟨(blk_cell BK276.out 0).trans rfl, (blk_cell BK276.out 1).trans rfl, (blk_cell BK276.out 2).trans rfl, (blk_cell BK276.out 3).trans rfl, hx280_0, hx280_1, hx280_2⟩ (fun hHeld => ?_); refine with_tabW galleyref05_Sizes.tab7 galleyref05_Sizes.bits7 (fun HT_ HW_ => ?_)
     generalize w14.drew = w15 at HO_4 BK275 BK276 HB hx280_0 hx280_1 hx280_2 hHeld ⊢
     refine pure_ (i := 0) (N := some 22) (v := ?_) (a' := ?_) #[true, false, false, false, false, false, false, false, false, false] rfl rfl (any_of HT_.out (by kernel_rfl)) (fun _ _ _ h => h) (Or.inl ⟨by rfl, ?_⟩) ?_ ?_
     rotate_left
     ·intro w'
      go_simp
      with_reducible rfl
     rotate_left
     ·simp only [Act.put, List.setIfInBounds_toArray, List.set_cons_zero, List.set_cons_succ, i64_w, i32_w]
      rfl
     refine pure_ (i := 2) (N := some 24) (v := ?_) (a' := ?_) #[true, false, true, false, false, false, false, false, false, false] rfl rfl (any_of HT_.out (by kernel_rfl)) (fun _ _ _ h => h) (Or.inl ⟨by rfl, ?_⟩) ?_ ?_
     rotate_left
     ·intro w'
      go_simp
      with_reducible rfl
     rotate_left
     ·simp only [Act.put, List.setIfInBounds_toArray, List.set_cons_zero, List.set_cons_succ, i64_w, i32_w]
      rfl
     refine pure_ (i := 3) (N := some 25) (v := ?_) (a' := ?_) #[true, false, true, true, false, false, false, false, false, false] rfl rfl (any_of HT_.out (by kernel_rfl)) (fun _ _ _ h => h) (Or.inl ⟨by rfl, ?_⟩) ?_ ?_
     rotate_left
     ·intro w'
      go_simp
      with_reducible rfl
     rotate_left
     ·simp only [Act.put, List.setIfInBounds_toArray, List.set_cons_zero, List.set_cons_succ, i64_w, i32_w]
      rfl
     refine pure_ (i := 4) (N := some 26) (v := ?_) (a' := ?_) #[true, false, true, true, true, false, false, false, false, false] rfl rfl (any_of HT_.out (by kernel_rfl)) (fun _ _ _ h => h) (Or.inl ⟨by rfl, ?_⟩) ?_ ?_
     rotate_left
     ·intro w'
      go_simp
      with_reducible rfl
     rotate_left
     ·simp only [Act.put, List.setIfInBounds_toArray, List.set_cons_zero, List.set_cons_succ, i64_w, i32_w]
      rfl
     refine take_ (i := 1) (N := some 23) (v := ?_) (a' := ?_) #[true, true, true, true, true, false, false, false, false, false] rfl rfl (take_ofW HT_.out HW_.out (by kernel_rfl)) (fun _ _ _ h => h) (Or.inl ⟨by rfl, ?_⟩) hHeld ?_ ?_
     rotate_left
     ·rintro w' ⟨s0, s1, s2, s3, s4, s5, s6⟩
      go_simp
      with_reducible rfl
     rotate_left
     ·simp only [Act.put, List.setIfInBounds_toArray, List.set_cons_zero, List.set_cons_succ, i64_w, i32_w]
      rfl
     refine take_ (i := 5) (N := some 27) (v := ?_) (a' := ?_) #[true, true, true, true, true, true, false, false, false, false] rfl rfl (take_ofW HT_.out HW_.out (by kernel_rfl)) (fun _ _ _ h => h) (Or.inl ⟨by rfl, ?_⟩) hHeld ?_ ?_
     rotate_left
     ·rintro w' ⟨s0, s1, s2, s3, s4, s5, s6⟩
      go_simp
      with_reducible rfl
     rotate_left
     ·simp only [Act.put, List.setIfInBounds_toArray, List.set_cons_zero, List.set_cons_succ, i64_w, i32_w]
      rfl
     refine one_ (i := 6) (N := some 28) #[true, true, true, true, true, true, true, false, false, false] rfl rfl (one_of HT_.out (by kernel_rfl)) (by decide) (fun K hK => ?_)
     refine goes_ Tryd.func30 (by kernel_rfl) rfl #[.agg #[.int .i32 ((rd_T57 t277 x5_1).f0), .int .i64 ((rd_T57 t277 x5_1).f1), .bool ((rd_T57 t277 x5_1).f2)]] (by rfl) rfl rfl (by (try simp only [List.map_toArray, List.map_cons, List.map_nil]); first | done | rfl | (simp only [List.length_drop, List.length_take]; rfl)) ?_
     with_reducible refine (galleyref05_units.calls ((rd_T57 t277 x5_1).f0) ((rd_T57 t277 x5_1).f1) ((rd_T57 t277 x5_1).f2) t281 _ A10.out).mono ?_
     rintro e w16 ⟨rfl, hb⟩
     have HS4_ := (hb.cell (World.block_lt_of_cell? _ _ (hHeld.2.2.2.2.1))).trans (hHeld.2.2.2.2.1)
     have HS5_ := (hb.cell (World.block_lt_of_cell? _ _ (hHeld.2.2.2.2.2.1))).trans (hHeld.2.2.2.2.2.1)
     have HS6_ := (hb.cell (World.block_lt_of_cell? _ _ (hHeld.2.2.2.2.2.2))).trans (hHeld.2.2.2.2.2.2)
     refine ⟨_, rfl, ?_⟩
     replace HO_4 := Aside0.mk (Kd.R_below (by (with_reducible repeat (first | apply Kd.R_alloc | apply Kd.R_drewN | apply Kd.R_drew)); exact HO_4.out) hb); replace BK275 := Aside0.mk (blk_below (pl BK275.out) hb); replace BK276 := Aside0.mk (blk_below (pl BK276.out) hb); replace HB := Aside0.mk (below_step (by repeat (first | (with_reducible first | exact HB.out | apply below_alloc | apply pw_below_drewN | apply below_drew1 | refine below_set ?_ GE275.out | refine below_set ?_ GE276.out) | exact HB.out)) hb)
     (try clear hb)
     (try clear hb2)
     (try clear hk)
     (try clear hi)
     refine hK.out _ _ ⟨(blk_cell BK276.out 0).trans rfl, (blk_cell BK276.out 1).trans rfl, (blk_cell BK276.out 2).trans rfl, (blk_cell BK276.out 3).trans rfl, HS4_, HS5_, HS6_⟩ (fun hHeld => ?_)
     clear hK K
     refine norm_ (a' := ?_) ?_ ?_
     rotate_left
     ·show Act.put _ (some 28) _ = _
      simp only [Act.put, List.setIfInBounds_toArray, List.set_cons_zero, List.set_cons_succ, i64_w, i32_w]
      rfl
     refine pure_ (i := 7) (N := some 29) (v := ?_) (a' := ?_) #[true, true, true, true, true, true, true, true, false, false] rfl rfl (any_of HT_.out (by kernel_rfl)) (fun _ _ _ h => h) (Or.inl ⟨by rfl, ?_⟩) ?_ ?_
     rotate_left
     ·intro w'
      go_simp
      with_reducible rfl
     rotate_left
     ·simp only [Act.put, List.setIfInBounds_toArray, List.set_cons_zero, List.set_cons_succ, i64_w, i32_w]
      rfl
     refine pure_ (i := 8) (N := some 30) (v := ?_) (a' := ?_) #[true, true, true, true, true, true, true, true, true, false] rfl rfl (any_of HT_.out (by kernel_rfl)) (fun _ _ _ h => h) (Or.inl ⟨by rfl, ?_⟩) ?_ ?_
     rotate_left
     ·intro w'
      go_simp
      with_reducible rfl
     rotate_left
     ·simp only [Act.put, List.setIfInBounds_toArray, List.set_cons_zero, List.set_cons_succ, i64_w, i32_w]
      rfl
     refine last_ (i := 9) (N := none) #[true, true, true, true, true, true, true, true, true, true] rfl rfl (one_of HT_.out (by kernel_rfl)) (by decide) (fun K hK => ?_)
     have hs17 : w16.cell? ⟨gb276, 2, none⟩ = some (.int .i64 x277002_1) := (blk_cell BK276.out 2).trans rfl
     have hfs17 := blk_frozen BK276.out 2
     have hns17_0 := NB275_276.out; have hms17_0 := NB276_275.out
     refine skip_ (w1 := ?_) (by rfl) rfl ?_ ?_
     rotate_left
     ·go_simp
      rfl
     refine hK.out _ _ ?_
     clear hK K
     refine done_ (done_of HT_.out (by kernel_rfl)) ?_
     try go_wp2
     go_roundg k1
     case measure => have := HK1.out; omega
     case rel => exact ⟨(wrap64 (x5_1 + 1)), (wrap64 (x277001_1 + 1)), (wrap64 (x277002_1 + t281)), (by first | rfl | (simp; done) | (simp [*]; done)), H', ⟨by have := HK1.out; omega⟩, ⟨by (with_reducible repeat (first | apply Kd.R_alloc | apply Kd.R_drewN | apply Kd.R_drew)); exact Kd.R_mono (Kd.R_far (p := ⟨gb276, 2, none⟩) (Kd.R_types HO_4.out BK276.out (by decide)) (fun _ hk => hk.2) (.int .i64 (wrap64 (x277002_1 + t281)))) (fun _ hk => trivial)⟩, ⟨by refine pl ?_; refine blk_far ?_ NB275_276.out _; refine pl ?_; exact BK275.out⟩, ⟨by refine pl ?_; refine blk_put (cs := #[.int .i64 (l0.length : Int), .int .i64 (wrap64 (x277001_1 + 1)), .int .i64 x277002_1, .int .i64 0]) ?_ 2 _ rfl; refine pl ?_; exact BK276.out⟩, ⟨by repeat (first | (with_reducible first | exact HB.out | apply below_alloc | apply pw_below_drewN | apply below_drew1 | refine below_set ?_ GE275.out | refine below_set ?_ GE276.out) | exact HB.out)⟩⟩
    ·rw [if_neg c9] at H
     exact absurd H (by simp)
   ·rw [if_neg c8] at H
    have c8b0 : decide (x5_1 < (t277.length : Int)) = false := decide_eq_false c8
    clear c8; have H' := Aside0.mk H; clear H
    obtain ⟨Ao18, co18, eo18⟩ := Kd.R_slice HO_4.out
    subst eo18
    go_wp2
    go_loopg [6] k1 (fun kq v6 w' => ∃ (x6_2 : Int) (x277003_2 : Int), v6 = .int .i64 x6_2 ∧ Aside0 (galleyref05_Sizes.l1 kq l0 x6_2 (l0.length : Int) x277001_1 x277002_1 x277003_2 = some (r1, r2, r3, r4)) ∧ Aside0 (kq ≤ k1) ∧ Aside0 (w'.heap[gb275]? = some (.cells #[.int .i64 0, .int .i64 0, .int .i64 0, .int .i64 0] 24 (0, 0))) ∧ Aside0 (w'.heap[gb276]? = some (.cells #[.int .i64 (l0.length : Int), .int .i64 x277001_1, .int .i64 x277002_1, .int .i64 x277003_2] 24 (0, 0))) ∧ Aside0 (Below w.heap.size w w'))
    case atStart => exact ⟨(0), (0), (by first | rfl | (simp; done) | (simp [*]; done)), H', ⟨Nat.le_refl _⟩, ⟨pl BK275.out⟩, ⟨pl BK276.out⟩, ⟨by repeat (first | (with_reducible first | exact HB.out | apply below_alloc | apply pw_below_drewN | apply below_drew1 | refine below_set ?_ GE275.out | refine below_set ?_ GE276.out) | exact HB.out)⟩⟩
    case round =>
     clear H'
     (try clear c1); (try clear c2); (try clear p2); (try clear q2); (try clear hx2); (try clear c3); (try clear c5); (try clear p6); (try clear c8); (try clear c8b0); (try clear c9); (try clear c9b0); (try clear c12); (try clear c15); (try clear hcz13_0); (try clear hcz13_1); (try clear hcz13_2); (try clear hcz13_3); (try clear hcz6_0); (try clear hcz6_1); (try clear hcz6_2); (try clear hcz6_3); (try clear hfz13_0); (try clear hfz13_1); (try clear hfz13_2); (try clear hfz13_3); (try clear hfz6_0); (try clear hfz6_1); (try clear hfz6_2); (try clear hfz6_3); (try clear hx280_0); (try clear hx280_1); (try clear hx280_2); (try clear p2); (try clear p280); (try clear q280)
     obtain ⟨x6_2, x277003_2, rfl, HA, HK2, BK275, BK276, HB⟩ := hrel
     cases gk with
     | zero => exact absurd HA.out (by simp [galleyref05_Sizes.l1])
     | succ k2 =>
      have H := HA.out; clear HA
      simp only [galleyref05_Sizes.l1] at H
      by_cases c19 : x6_2 < (l0.length : Int)
      ·rw [if_pos c19] at H
       have c19b0 : decide (x6_2 < (l0.length : Int)) = true := decide_eq_true c19
       clear c19
       by_cases c20 : 0 ≤ x6_2
       ·rw [if_pos c20] at H
        have c20b0 : decide (0 ≤ x6_2) = true := decide_eq_true c20
        clear c20
        by_cases c21 : (rd l0 x6_2) = 10
        ·rw [if_pos c21] at H
         have c21b0 : ((rd l0 x6_2) == 10) = true := beq_iff_eq.mpr c21
         have c21b1 : ((rd l0 x6_2) != 10) = false := bne_eq_false_iff_eq.mpr c21
         clear c21
         by_cases c22 : x6_2 = 0
         ·rw [if_pos c22] at H
          have c22b0 : (x6_2 == 0) = true := beq_iff_eq.mpr c22
          have c22b1 : (x6_2 != 0) = false := bne_eq_false_iff_eq.mpr c22
          clear c22; have H' := Aside0.mk H; clear H
          have p282 : 0 ≤ (x6_2 : Int) := of_decide_eq_true (by first | (with_reducible assumption) | assumption)
          have q282 : x6_2 < (l0.length : Int) := of_decide_eq_true (by first | (with_reducible assumption) | assumption)
          obtain ⟨ad282, e282, hx282_0⟩ := Kd.at_int HR0.out x6_2 p282 q282
          cases e282
          replace hx282_0 := (HB.out.cell (World.block_lt_of_cell? w _ hx282_0)).trans hx282_0
          replace p282 := eq_true p282
          replace q282 := eq_true q282
          have hnb23 := NB276_275.out; have hnc23 := NB275_276.out; obtain ⟨hcz24_0, hcz24_1, hcz24_2, hcz24_3⟩ := c4 BK276.out; obtain ⟨hfz24_0, hfz24_1, hfz24_2, hfz24_3⟩ := f4 BK276.out
          go_wp2
          go_roundg k2
          case measure => have := HK1.out; have := HK2.out; omega
          case rel => exact ⟨(wrap64 (x6_2 + 1)), (wrap64 (x277003_2 + 1)), (by first | rfl | (simp; done) | (simp [*]; done)), H', ⟨by have := HK1.out; have := HK2.out; omega⟩, ⟨by refine pl ?_; refine blk_far ?_ NB275_276.out _; refine pl ?_; exact BK275.out⟩, ⟨by refine pl ?_; refine blk_put (cs := #[.int .i64 (l0.length : Int), .int .i64 x277001_1, .int .i64 x277002_1, .int .i64 x277003_2]) ?_ 3 _ rfl; refine pl ?_; exact BK276.out⟩, ⟨by repeat (first | (with_reducible first | exact HB.out | apply below_alloc | apply pw_below_drewN | apply below_drew1 | refine below_set ?_ GE275.out | refine below_set ?_ GE276.out) | exact HB.out)⟩⟩
         ·rw [if_neg c22] at H
          have c22b0 : (x6_2 == 0) = false := beq_eq_false_iff_ne.mpr c22
          have c22b1 : (x6_2 != 0) = true := bne_iff_ne.mpr c22
          obtain ⟨ji25, hji25⟩ : ∃ j_ : Int, (wrap64 (x6_2 - 1)) = j_ := ⟨_, rfl⟩
          replace H : (if 0 ≤ (ji25) then (if (ji25) < (l0.length : Int) then (if (rd l0 (ji25)) = 13 then (if (rd l0 x6_2) = 13 then (galleyref05_Sizes.l1 k2 l0 (wrap64 (x6_2 + 1)) (l0.length : Int) x277001_1 x277002_1 (wrap64 (x277003_2 + 1))) else (galleyref05_Sizes.l1 k2 l0 (wrap64 (x6_2 + 1)) (l0.length : Int) x277001_1 x277002_1 x277003_2)) else (galleyref05_Sizes.l1 k2 l0 (wrap64 (x6_2 + 1)) (l0.length : Int) x277001_1 x277002_1 (wrap64 (x277003_2 + 1)))) else (none)) else (none)) = some (r1, r2, r3, r4) := by first | (rw [hji25] at H; exact H) | (simp only [hji25] at H ⊢; exact H)
          have hji25w : (IntKind.i64.wrap (x6_2 - 1)) = ji25 := (i64_w _).trans hji25
          by_cases c26 : 0 ≤ (ji25)
          ·rw [if_pos c26] at H
           have c26b0 : decide (0 ≤ (ji25)) = true := decide_eq_true c26
           clear c26
           by_cases c27 : (ji25) < (l0.length : Int)
           ·rw [if_pos c27] at H
            have c27b0 : decide ((ji25) < (l0.length : Int)) = true := decide_eq_true c27
            clear c27
            by_cases c28 : (rd l0 (ji25)) = 13
            ·rw [if_pos c28] at H
             have c28b0 : ((rd l0 (ji25)) == 13) = true := beq_iff_eq.mpr c28
             have c28b1 : ((rd l0 (ji25)) != 13) = false := bne_eq_false_iff_eq.mpr c28
             clear c28
             by_cases c29 : (rd l0 x6_2) = 13
             ·rw [if_pos c29] at H
              have c29b0 : ((rd l0 x6_2) == 13) = true := beq_iff_eq.mpr c29
              have c29b1 : ((rd l0 x6_2) != 13) = false := bne_eq_false_iff_eq.mpr c29
              clear c29; have H' := Aside0.mk H; clear H
              have p282 : 0 ≤ (x6_2 : Int) := of_decide_eq_true (by first | (with_reducible assumption) | assumption)
              have q282 : x6_2 < (l0.length : Int) := of_decide_eq_true (by first | (with_reducible assumption) | assumption)
              obtain ⟨ad282, e282, hx282_0⟩ := Kd.at_int HR0.out x6_2 p282 q282
              cases e282
              replace hx282_0 := (HB.out.cell (World.block_lt_of_cell? w _ hx282_0)).trans hx282_0
              replace p282 := eq_true p282
              replace q282 := eq_true q282
              have p283 : 0 ≤ ((ji25) : Int) := of_decide_eq_true (by first | (with_reducible assumption) | assumption)
              have q283 : (ji25) < (l0.length : Int) := of_decide_eq_true (by first | (with_reducible assumption) | assumption)
              obtain ⟨ad283, e283, hx283_0⟩ := Kd.at_int HR0.out (ji25) p283 q283
              obtain rfl : ad282 = ad283 := (by injection e283)
              replace hx283_0 := (HB.out.cell (World.block_lt_of_cell? w _ hx283_0)).trans hx283_0
              replace p283 := eq_true p283
              replace q283 := eq_true q283
              have p284 : 0 ≤ (x6_2 : Int) := of_decide_eq_true (by first | (with_reducible assumption) | assumption)
              have q284 : x6_2 < (l0.length : Int) := of_decide_eq_true (by first | (with_reducible assumption) | assumption)
              obtain ⟨ad284, e284, hx284_0⟩ := Kd.at_int HR0.out x6_2 p284 q284
              obtain rfl : ad282 = ad284 := (by injection e284)
              replace hx284_0 := (HB.out.cell (World.block_lt_of_cell? w _ hx284_0)).trans hx284_0
              replace p284 := eq_true p284
              replace q284 := eq_true q284
              have hnb30 := NB276_275.out; have hnc30 := NB275_276.out; obtain ⟨hcz31_0, hcz31_1, hcz31_2, hcz31_3⟩ := c4 BK276.out; obtain ⟨hfz31_0, hfz31_1, hfz31_2, hfz31_3⟩ := f4 BK276.out
              go_wp2
              go_roundg k2
              case measure => have := HK1.out; have := HK2.out; omega
              case rel => exact ⟨(wrap64 (x6_2 + 1)), (wrap64 (x277003_2 + 1)), (by first | rfl | (simp; done) | (simp [*]; done)), H', ⟨by have := HK1.out; have := HK2.out; omega⟩, ⟨by refine pl ?_; refine blk_far ?_ NB275_276.out _; refine pl ?_; exact BK275.out⟩, ⟨by refine pl ?_; refine blk_put (cs := #[.int .i64 (l0.length : Int), .int .i64 x277001_1, .int .i64 x277002_1, .int .i64 x277003_2]) ?_ 3 _ rfl; refine pl ?_; exact BK276.out⟩, ⟨by repeat (first | (with_reducible first | exact HB.out | apply below_alloc | apply pw_below_drewN | apply below_drew1 | refine below_set ?_ GE275.out | refine below_set ?_ GE276.out) | exact HB.out)⟩⟩
             ·rw [if_neg c29] at H
              have c29b0 : ((rd l0 x6_2) == 13) = false := beq_eq_false_iff_ne.mpr c29
              have c29b1 : ((rd l0 x6_2) != 13) = true := bne_iff_ne.mpr c29
              have H' := Aside0.mk H; clear H
              have p282 : 0 ≤ (x6_2 : Int) := of_decide_eq_true (by first | (with_reducible assumption) | assumption)
              have q282 : x6_2 < (l0.length : Int) := of_decide_eq_true (by first | (with_reducible assumption) | assumption)
              obtain ⟨ad282, e282, hx282_0⟩ := Kd.at_int HR0.out x6_2 p282 q282
              cases e282
              replace hx282_0 := (HB.out.cell (World.block_lt_of_cell? w _ hx282_0)).trans hx282_0
              replace p282 := eq_true p282
              replace q282 := eq_true q282
              have p283 : 0 ≤ ((ji25) : Int) := of_decide_eq_true (by first | (with_reducible assumption) | assumption)
              have q283 : (ji25) < (l0.length : Int) := of_decide_eq_true (by first | (with_reducible assumption) | assumption)
              obtain ⟨ad283, e283, hx283_0⟩ := Kd.at_int HR0.out (ji25) p283 q283
              obtain rfl : ad282 = ad283 := (by injection e283)
              replace hx283_0 := (HB.out.cell (World.block_lt_of_cell? w _ hx283_0)).trans hx283_0
              replace p283 := eq_true p283
              replace q283 := eq_true q283
              have p284 : 0 ≤ (x6_2 : Int) := of_decide_eq_true (by first | (with_reducible assumption) | assumption)
              have q284 : x6_2 < (l0.length : Int) := of_decide_eq_true (by first | (with_reducible assumption) | assumption)
              obtain ⟨ad284, e284, hx284_0⟩ := Kd.at_int HR0.out x6_2 p284 q284
              obtain rfl : ad282 = ad284 := (by injection e284)
              replace hx284_0 := (HB.out.cell (World.block_lt_of_cell? w _ hx284_0)).trans hx284_0
              replace p284 := eq_true p284
              replace q284 := eq_true q284
              go_wp2
              go_roundg k2
              case measure => have := HK1.out; have := HK2.out; omega
              case rel => exact ⟨(wrap64 (x6_2 + 1)), (x277003_2), (by first | rfl | (simp; done) | (simp [*]; done)), H', ⟨by have := HK1.out; have := HK2.out; omega⟩, ⟨pl BK275.out⟩, ⟨pl BK276.out⟩, ⟨by repeat (first | (with_reducible first | exact HB.out | apply below_alloc | apply pw_below_drewN | apply below_drew1 | refine below_set ?_ GE275.out | refine below_set ?_ GE276.out) | exact HB.out)⟩⟩
            ·rw [if_neg c28] at H
             have c28b0 : ((rd l0 (ji25)) == 13) = false := beq_eq_false_iff_ne.mpr c28
             have c28b1 : ((rd l0 (ji25)) != 13) = true := bne_iff_ne.mpr c28
             have H' := Aside0.mk H; clear H
             have p282 : 0 ≤ (x6_2 : Int) := of_decide_eq_true (by first | (with_reducible assumption) | assumption)
             have q282 : x6_2 < (l0.length : Int) := of_decide_eq_true (by first | (with_reducible assumption) | assumption)
             obtain ⟨ad282, e282, hx282_0⟩ := Kd.at_int HR0.out x6_2 p282 q282
             cases e282
             replace hx282_0 := (HB.out.cell (World.block_lt_of_cell? w _ hx282_0)).trans hx282_0
             replace p282 := eq_true p282
             replace q282 := eq_true q282
             have p283 : 0 ≤ ((ji25) : Int) := of_decide_eq_true (by first | (with_reducible assumption) | assumption)
             have q283 : (ji25) < (l0.length : Int) := of_decide_eq_true (by first | (with_reducible assumption) | assumption)
             obtain ⟨ad283, e283, hx283_0⟩ := Kd.at_int HR0.out (ji25) p283 q283
             obtain rfl : ad282 = ad283 := (by injection e283)
             replace hx283_0 := (HB.out.cell (World.block_lt_of_cell? w _ hx283_0)).trans hx283_0
             replace p283 := eq_true p283
             replace q283 := eq_true q283
             have hnb32 := NB276_275.out; have hnc32 := NB275_276.out; obtain ⟨hcz33_0, hcz33_1, hcz33_2, hcz33_3⟩ := c4 BK276.out; obtain ⟨hfz33_0, hfz33_1, hfz33_2, hfz33_3⟩ := f4 BK276.out
             go_wp2
             go_roundg k2
             case measure => have := HK1.out; have := HK2.out; omega
             case rel => exact ⟨(wrap64 (x6_2 + 1)), (wrap64 (x277003_2 + 1)), (by first | rfl | (simp; done) | (simp [*]; done)), H', ⟨by have := HK1.out; have := HK2.out; omega⟩, ⟨by refine pl ?_; refine blk_far ?_ NB275_276.out _; refine pl ?_; exact BK275.out⟩, ⟨by refine pl ?_; refine blk_put (cs := #[.int .i64 (l0.length : Int), .int .i64 x277001_1, .int .i64 x277002_1, .int .i64 x277003_2]) ?_ 3 _ rfl; refine pl ?_; exact BK276.out⟩, ⟨by repeat (first | (with_reducible first | exact HB.out | apply below_alloc | apply pw_below_drewN | apply below_drew1 | refine below_set ?_ GE275.out | refine below_set ?_ GE276.out) | exact HB.out)⟩⟩
           ·rw [if_neg c27] at H
            exact absurd H (by simp)
          ·rw [if_neg c26] at H
           exact absurd H (by simp)
        ·rw [if_neg c21] at H
         have c21b0 : ((rd l0 x6_2) == 10) = false := beq_eq_false_iff_ne.mpr c21
         have c21b1 : ((rd l0 x6_2) != 10) = true := bne_iff_ne.mpr c21
         by_cases c34 : (rd l0 x6_2) = 13
         ·rw [if_pos c34] at H
          have c34b0 : ((rd l0 x6_2) == 13) = true := beq_iff_eq.mpr c34
          have c34b1 : ((rd l0 x6_2) != 13) = false := bne_eq_false_iff_eq.mpr c34
          clear c34; have H' := Aside0.mk H; clear H
          have p282 : 0 ≤ (x6_2 : Int) := of_decide_eq_true (by first | (with_reducible assumption) | assumption)
          have q282 : x6_2 < (l0.length : Int) := of_decide_eq_true (by first | (with_reducible assumption) | assumption)
          obtain ⟨ad282, e282, hx282_0⟩ := Kd.at_int HR0.out x6_2 p282 q282
          cases e282
          replace hx282_0 := (HB.out.cell (World.block_lt_of_cell? w _ hx282_0)).trans hx282_0
          replace p282 := eq_true p282
          replace q282 := eq_true q282
          have p285 : 0 ≤ (x6_2 : Int) := of_decide_eq_true (by first | (with_reducible assumption) | assumption)
          have q285 : x6_2 < (l0.length : Int) := of_decide_eq_true (by first | (with_reducible assumption) | assumption)
          obtain ⟨ad285, e285, hx285_0⟩ := Kd.at_int HR0.out x6_2 p285 q285
          obtain rfl : ad282 = ad285 := (by injection e285)
          replace hx285_0 := (HB.out.cell (World.block_lt_of_cell? w _ hx285_0)).trans hx285_0
          replace p285 := eq_true p285
          replace q285 := eq_true q285
          have hnb35 := NB276_275.out; have hnc35 := NB275_276.out; obtain ⟨hcz36_0, hcz36_1, hcz36_2, hcz36_3⟩ := c4 BK276.out; obtain ⟨hfz36_0, hfz36_1, hfz36_2, hfz36_3⟩ := f4 BK276.out
          go_wp2
          go_roundg k2
          case measure => have := HK1.out; have := HK2.out; omega
          case rel => exact ⟨(wrap64 (x6_2 + 1)), (wrap64 (x277003_2 + 1)), (by first | rfl | (simp; done) | (simp [*]; done)), H', ⟨by have := HK1.out; have := HK2.out; omega⟩, ⟨by refine pl ?_; refine blk_far ?_ NB275_276.out _; refine pl ?_; exact BK275.out⟩, ⟨by refine pl ?_; refine blk_put (cs := #[.int .i64 (l0.length : Int), .int .i64 x277001_1, .int .i64 x277002_1, .int .i64 x277003_2]) ?_ 3 _ rfl; refine pl ?_; exact BK276.out⟩, ⟨by repeat (first | (with_reducible first | exact HB.out | apply below_alloc | apply pw_below_drewN | apply below_drew1 | refine below_set ?_ GE275.out | refine below_set ?_ GE276.out) | exact HB.out)⟩⟩
         ·rw [if_neg c34] at H
          have c34b0 : ((rd l0 x6_2) == 13) = false := beq_eq_false_iff_ne.mpr c34
          have c34b1 : ((rd l0 x6_2) != 13) = true := bne_iff_ne.mpr c34
          have H' := Aside0.mk H; clear H
          have p282 : 0 ≤ (x6_2 : Int) := of_decide_eq_true (by first | (with_reducible assumption) | assumption)
          have q282 : x6_2 < (l0.length : Int) := of_decide_eq_true (by first | (with_reducible assumption) | assumption)
          obtain ⟨ad282, e282, hx282_0⟩ := Kd.at_int HR0.out x6_2 p282 q282
          cases e282
          replace hx282_0 := (HB.out.cell (World.block_lt_of_cell? w _ hx282_0)).trans hx282_0
          replace p282 := eq_true p282
          replace q282 := eq_true q282
          have p285 : 0 ≤ (x6_2 : Int) := of_decide_eq_true (by first | (with_reducible assumption) | assumption)
          have q285 : x6_2 < (l0.length : Int) := of_decide_eq_true (by first | (with_reducible assumption) | assumption)
          obtain ⟨ad285, e285, hx285_0⟩ := Kd.at_int HR0.out x6_2 p285 q285
          obtain rfl : ad282 = ad285 := (by injection e285)
          replace hx285_0 := (HB.out.cell (World.block_lt_of_cell? w _ hx285_0)).trans hx285_0
          replace p285 := eq_true p285
          replace q285 := eq_true q285
          go_wp2
          go_roundg k2
          case measure => have := HK1.out; have := HK2.out; omega
          case rel => exact ⟨(wrap64 (x6_2 + 1)), (x277003_2), (by first | rfl | (simp; done) | (simp [*]; done)), H', ⟨by have := HK1.out; have := HK2.out; omega⟩, ⟨pl BK275.out⟩, ⟨pl BK276.out⟩, ⟨by repeat (first | (with_reducible first | exact HB.out | apply below_alloc | apply pw_below_drewN | apply below_drew1 | refine below_set ?_ GE275.out | refine below_set ?_ GE276.out) | exact HB.out)⟩⟩
       ·rw [if_neg c20] at H
        exact absurd H (by simp)
      ·rw [if_neg c19] at H
       have c19b0 : decide (x6_2 < (l0.length : Int)) = false := decide_eq_false c19
       clear c19
       simp only [Option.some.injEq, Prod.mk.injEq] at H
       obtain ⟨rfl, rfl, rfl, rfl⟩ := H
       have hnb37 := NB276_275.out; have hnc37 := NB275_276.out; obtain ⟨hcz38_0, hcz38_1, hcz38_2, hcz38_3⟩ := c4 BK276.out; obtain ⟨hfz38_0, hfz38_1, hfz38_2, hfz38_3⟩ := f4 BK276.out; obtain ⟨hcz39_0, hcz39_1, hcz39_2, hcz39_3⟩ := c4 BK275.out; obtain ⟨hfz39_0, hfz39_1, hfz39_2, hfz39_3⟩ := f4 BK275.out
       go_wp2
       refine bodyPost_ret (results_cell_row rfl _ _ gb275 24 #[.int .i64 (l0.length : Int), .int .i64 x277001_1, .int .i64 x277002_1, .int .i64 x277003_2] (0, 0) _ rfl (by refine pl ?_; refine blk_put (cs := #[.int .i64 (l0.length : Int), .int .i64 x277001_1, .int .i64 x277002_1, .int .i64 0]) ?_ 3 _ rfl; refine pl ?_; refine blk_put (cs := #[.int .i64 (l0.length : Int), .int .i64 x277001_1, .int .i64 0, .int .i64 0]) ?_ 2 _ rfl; refine pl ?_; refine blk_put (cs := #[.int .i64 (l0.length : Int), .int .i64 0, .int .i64 0, .int .i64 0]) ?_ 1 _ rfl; refine pl ?_; refine blk_put (cs := #[.int .i64 0, .int .i64 0, .int .i64 0, .int .i64 0]) ?_ 0 _ rfl; refine pl ?_; exact BK275.out) Tryd.underlying24 rfl (by kernel_rfl)) rfl ?_
       exact ⟨by first | rfl | (simp [errW_none, errW_some] <;> rfl) | (simp [*, errW_none, errW_some] <;> rfl), by repeat (first | (with_reducible first | exact HB.out | apply below_alloc | apply pw_below_drewN | apply below_drew1 | refine below_set ?_ GE275.out | refine below_set ?_ GE276.out) | exact HB.out)⟩
def galleyref05_head.f (a0 : ByteArray) : Option (ByteArray) := if 0 ≤ (mn 3 (a0.size : Int)) then (if (mn 3 (a0.size : Int)) ≤ (a0.size : Int) then (some (a0.extract 0 ((mn 3 (a0.size : Int)) : Int).toNat)) else (none)) else (none)
set_option maxHeartbeats 8000000 in
set_option maxRecDepth 100000 in
theorem galleyref05_head.calls (a0 : ByteArray) (r : ByteArray) (w : World) (h : galleyref05_head.f a0 = some r) :
  Calls Tryd.prog 27 #[.string a0] w fun e w' => e = .returned (.string r) ∧ Below w.heap.size w w' := by
 have HB := Aside0.mk (Below.refl w.heap.size w)
 have H : (if 0 ≤ (mn 3 (a0.size : Int)) then (if (mn 3 (a0.size : Int)) ≤ (a0.size : Int) then (some (a0.extract 0 ((mn 3 (a0.size : Int)) : Int).toNat)) else (none)) else (none)) = some r := h
 clear h
 obtain ⟨ji2, hji2⟩ : ∃ j_ : Int, (mn 3 (a0.size : Int)) = j_ := ⟨_, rfl⟩
 replace H : (if 0 ≤ (ji2) then (if (ji2) ≤ (a0.size : Int) then (some (a0.extract 0 ((ji2) : Int).toNat)) else (none)) else (none)) = some r := by first | (rw [hji2] at H; exact H) | (simp only [hji2] at H ⊢; exact H)
 (try (have hji2h : ji2 ≤ 3 := by (rw [← hji2]; unfold mn; (repeat' split) <;> omega)))
 (try (have hji2g : ji2 ≤ 64 := by omega))
 (try (have hji2l : 0 ≤ ji2 := by (rw [← hji2]; unfold mn; (repeat' split) <;> omega)))
 (try (have hji2m : 0 ≤ ji2 := by omega))
 have hji2_ : (if (a0.size : Int) < 3 then (a0.size : Int) else 3) = ji2 := hji2
 by_cases c3 : 0 ≤ (ji2)
 ·rw [if_pos c3] at H
  have c3b0 := eq_true c3
  have c3b1 : decide (0 ≤ (ji2)) = true := decide_eq_true c3
  clear c3
  by_cases c4 : (ji2) ≤ (a0.size : Int)
  ·rw [if_pos c4] at H
   have c4b0 := eq_true c4
   have c4b1 : decide ((ji2) ≤ (a0.size : Int)) = true := decide_eq_true c4
   clear c4
   obtain rfl := Option.some.inj H
   go_enter Tryd.func27, Tryd.ntmps27
   go_wp2
   go_ret
   exact ⟨by first | rfl | (simp [errW_none, errW_some] <;> rfl) | (simp only [← hji2]; first | rfl | (simp [errW_none, errW_some] <;> rfl)) | (simp [*, errW_none, errW_some] <;> rfl), bl HB.out⟩
  ·rw [if_neg c4] at H
   exact absurd H (by simp)
 ·rw [if_neg c3] at H
  exact absurd H (by simp)
def galleyref05_tail.f (a0 : ByteArray) : Option (ByteArray) := if 0 ≤ (mx 0 (wrap64 ((a0.size : Int) - 3))) then (if (mx 0 (wrap64 ((a0.size : Int) - 3))) ≤ (a0.size : Int) then (some (a0.extract ((mx 0 (wrap64 ((a0.size : Int) - 3))) : Int).toNat a0.size)) else (none)) else (none)
set_option maxHeartbeats 8000000 in
set_option maxRecDepth 100000 in
theorem galleyref05_tail.calls (a0 : ByteArray) (r : ByteArray) (w : World) (h : galleyref05_tail.f a0 = some r) :
  Calls Tryd.prog 28 #[.string a0] w fun e w' => e = .returned (.string r) ∧ Below w.heap.size w w' := by
 have HB := Aside0.mk (Below.refl w.heap.size w)
 have H : (if 0 ≤ (mx 0 (wrap64 ((a0.size : Int) - 3))) then (if (mx 0 (wrap64 ((a0.size : Int) - 3))) ≤ (a0.size : Int) then (some (a0.extract ((mx 0 (wrap64 ((a0.size : Int) - 3))) : Int).toNat a0.size)) else (none)) else (none)) = some r := h
 clear h
 obtain ⟨ji2, hji2⟩ : ∃ j_ : Int, (mx 0 (wrap64 ((a0.size : Int) - 3))) = j_ := ⟨_, rfl⟩
 replace H : (if 0 ≤ (ji2) then (if (ji2) ≤ (a0.size : Int) then (some (a0.extract ((ji2) : Int).toNat a0.size)) else (none)) else (none)) = some r := by first | (rw [hji2] at H; exact H) | (simp only [hji2] at H ⊢; exact H)
 (try (have hji2l : 0 ≤ ji2 := by (rw [← hji2]; unfold mx; (repeat' split) <;> omega)))
 (try (have hji2m : 0 ≤ ji2 := by omega))
 have hji2_ : (if 0 < (wrap64 ((a0.size : Int) - 3)) then (wrap64 ((a0.size : Int) - 3)) else 0) = ji2 := hji2
 by_cases c3 : 0 ≤ (ji2)
 ·rw [if_pos c3] at H
  have c3b0 := eq_true c3
  have c3b1 : decide (0 ≤ (ji2)) = true := decide_eq_true c3
  clear c3
  by_cases c4 : (ji2) ≤ (a0.size : Int)
  ·rw [if_pos c4] at H
   have c4b0 := eq_true c4
   have c4b1 : decide ((ji2) ≤ (a0.size : Int)) = true := decide_eq_true c4
   clear c4
   obtain rfl := Option.some.inj H
   go_enter Tryd.func28, Tryd.ntmps28
   go_wp2
   go_ret
   exact ⟨by first | rfl | (simp [errW_none, errW_some] <;> rfl) | (simp only [← hji2]; first | rfl | (simp [errW_none, errW_some] <;> rfl)) | (simp [*, errW_none, errW_some] <;> rfl), bl HB.out⟩
  ·rw [if_neg c4] at H
   exact absurd H (by simp)
 ·rw [if_neg c3] at H
  exact absurd H (by simp)
def galleyref05_Of.f (k : Nat) (l0 : List Int) : Option (Int × Int × Int × Int × ByteArray × ByteArray) := if (l0.length : Int) > 268435456 then (some (0, 0, 0, 0, (⟨#[]⟩ : ByteArray), (⟨#[]⟩ : ByteArray))) else ((galleyref05_Sizes.f k l0).bind fun bt287 => ((galleyref05_head.f (strOfNums l0)).bind fun t291 => ((galleyref05_tail.f (strOfNums l0)).bind fun t292 => (some (bt287.1, bt287.2.1, bt287.2.2.1, bt287.2.2.2, t291, t292)))))
def galleyref05_Of.T3 : Bool × List (List Nat × List Nat) := (true, [([], []), ([0], [0]), ([], []), ([2], [2]), ([3, 1], [3]), ([], []), ([5], [5]), ([6, 4], [6]), ([1, 4, 7], [1, 4, 7]), ([8, 7, 0, 1, 2, 3, 4, 5, 6, 7, 8], [8])])
def galleyref05_Of.B3 : List Nat := [0, 1, 0, 4, 15, 0, 32, 127, 255, 511]
theorem galleyref05_Of.tab3 : rtab .any (opsOf Tryd.f14 3) = galleyref05_Of.T3 := by kernel_rfl
theorem galleyref05_Of.bits3 : waitsOk galleyref05_Of.T3.2 galleyref05_Of.B3 = true := by kernel_rfl
set_option maxHeartbeats 8000000 in
set_option maxRecDepth 100000 in
theorem galleyref05_Of.calls (k : Nat) (A0 : Option Addr) (c0 : Nat) (l0 : List Int) (r1 : Int) (r2 : Int) (r3 : Int) (r4 : Int) (r5 : ByteArray) (r6 : ByteArray) (w : World) (hr0 : Kd.C (Kd.int .u8) w A0 l0.length l0) (hc0 : l0.length ≤ c0) (h : galleyref05_Of.f k l0 = some (r1, r2, r3, r4, r5, r6)) :
  Calls Tryd.prog 14 #[.slice A0 l0.length c0] w fun e w' => e = .returned (.agg #[.int .i64 r1, .int .i64 r2, .int .i64 r3, .int .i64 r4, .string r5, .string r6]) ∧ Below w.heap.size w w' := by
 have hu26 := Tryd.underlying26
 have HR0 := Aside0.mk hr0; have HC0 := Aside0.mk hc0; clear hr0 hc0
 have HB := Aside0.mk (Below.refl w.heap.size w)
 have H : (if (l0.length : Int) > 268435456 then (some (0, 0, 0, 0, (⟨#[]⟩ : ByteArray), (⟨#[]⟩ : ByteArray))) else ((galleyref05_Sizes.f k l0).bind fun bt287 => ((galleyref05_head.f (strOfNums l0)).bind fun t291 => ((galleyref05_tail.f (strOfNums l0)).bind fun t292 => (some (bt287.1, bt287.2.1, bt287.2.2.1, bt287.2.2.2, t291, t292)))))) = some (r1, r2, r3, r4, r5, r6) := h
 clear h
 by_cases c2 : (l0.length : Int) > 268435456
 ·rw [if_pos c2] at H
  have c2b0 : decide (268435456 < (l0.length : Int)) = true := decide_eq_true c2
  have c2b1 : decide (268435456 < l0.length) = true := decide_eq_true (by omega)
  clear c2
  simp only [Option.some.injEq, Prod.mk.injEq] at H
  obtain ⟨rfl, rfl, rfl, rfl, rfl, rfl⟩ := H
  go_enter Tryd.func14, Tryd.ntmps14
  go_wp2_with (first | ((with_reducible refine gate_dst (N := 2) rfl ?_); refine box_event ?hg (N := 2) ?hd (cs := #[.int .i64 0, .int .i64 0, .int .i64 0, .int .i64 0, .string (⟨#[]⟩ : ByteArray), .string (⟨#[]⟩ : ByteArray)]) (t := 26) ?hr ?_; (case hd => rfl); (case hg => rfl); (case hr => first | (go_simp; done) | (go_simp; rfl)); intro gb286 hg w3 hbox hb; have BK286 := Aside0.mk (hbox); have GW286 := Aside0.mk ((by rw [hg]; exact (below_size (bl HB.out)) : w.heap.size ≤ gb286)); have GE286 := GW286; replace HB := Aside0.mk (below_step (bl HB.out) hb); clear hb hbox hg; obtain ⟨hcz4_0, hcz4_1, hcz4_2, hcz4_3, hcz4_4, hcz4_5⟩ := c6 BK286.out; obtain ⟨hfz4_0, hfz4_1, hfz4_2, hfz4_3, hfz4_4, hfz4_5⟩ := f6 BK286.out))
  refine bodyPost_ret (results_cell_row rfl _ _ gb286 26 #[.int .i64 0, .int .i64 0, .int .i64 0, .int .i64 0, .string (⟨#[]⟩ : ByteArray), .string (⟨#[]⟩ : ByteArray)] (0, 0) _ rfl (by refine pl ?_; refine blk_put (cs := #[.int .i64 0, .int .i64 0, .int .i64 0, .int .i64 0, .string (⟨#[]⟩ : ByteArray), .string (⟨#[]⟩ : ByteArray)]) ?_ 5 _ rfl; refine pl ?_; refine blk_put (cs := #[.int .i64 0, .int .i64 0, .int .i64 0, .int .i64 0, .string (⟨#[]⟩ : ByteArray), .string (⟨#[]⟩ : ByteArray)]) ?_ 4 _ rfl; refine pl ?_; refine blk_put (cs := #[.int .i64 0, .int .i64 0, .int .i64 0, .int .i64 0, .string (⟨#[]⟩ : ByteArray), .string (⟨#[]⟩ : ByteArray)]) ?_ 3 _ rfl; refine pl ?_; refine blk_put (cs := #[.int .i64 0, .int .i64 0, .int .i64 0, .int .i64 0, .string (⟨#[]⟩ : ByteArray), .string (⟨#[]⟩ : ByteArray)]) ?_ 2 _ rfl; refine pl ?_; refine blk_put (cs := #[.int .i64 0, .int .i64 0, .int .i64 0, .int .i64 0, .string (⟨#[]⟩ : ByteArray), .string (⟨#[]⟩ : ByteArray)]) ?_ 1 _ rfl; refine pl ?_; refine blk_put (cs := #[.int .i64 0, .int .i64 0, .int .i64 0, .int .i64 0, .string (⟨#[]⟩ : ByteArray), .string (⟨#[]⟩ : ByteArray)]) ?_ 0 _ rfl; refine pl ?_; exact BK286.out) Tryd.underlying26 rfl (by kernel_rfl)) rfl ?_
  exact ⟨by first | rfl | (simp [errW_none, errW_some] <;> rfl) | (simp [*, errW_none, errW_some] <;> rfl), by repeat (first | (with_reducible first | exact HB.out | apply below_alloc | apply pw_below_drewN | apply below_drew1 | refine below_set ?_ GE286.out) | exact HB.out)⟩
 ·rw [if_neg c2] at H
  have c2b0 : decide (268435456 < (l0.length : Int)) = false := decide_eq_false c2
  have c2b1 : decide (268435456 < l0.length) = false := decide_eq_false (by omega)
  clear c2
  replace H := Option.bind_eq_some_iff.mp H
  obtain ⟨⟨t287, t288, t289, t290⟩, A50, H⟩ := H
  replace H : ((galleyref05_head.f (strOfNums l0)).bind fun t291 => ((galleyref05_tail.f (strOfNums l0)).bind fun t292 => (some (t287, t288, t289, t290, t291, t292)))) = some (r1, r2, r3, r4, r5, r6) := H
  have A5 := Aside0.mk A50; clear A50
  replace H := Option.bind_eq_some_iff.mp H
  obtain ⟨t291, A60, H⟩ := H
  replace H : ((galleyref05_tail.f (strOfNums l0)).bind fun t292 => (some (t287, t288, t289, t290, t291, t292))) = some (r1, r2, r3, r4, r5, r6) := H
  have A6 := Aside0.mk A60; clear A60
  replace H := Option.bind_eq_some_iff.mp H
  obtain ⟨t292, A70, H⟩ := H
  replace H : (some (t287, t288, t289, t290, t291, t292)) = some (r1, r2, r3, r4, r5, r6) := H
  have A7 := Aside0.mk A70; clear A70
  simp only [Option.some.injEq, Prod.mk.injEq] at H
  obtain ⟨rfl, rfl, rfl, rfl, rfl, rfl⟩ := H
  go_enter Tryd.func14, Tryd.ntmps14
  try go_wp2_with (first | ((with_reducible refine gate_dst (N := 2) rfl ?_); refine box_event ?hg (N := 2) ?hd (cs := #[.int .i64 0, .int .i64 0, .int .i64 0, .int .i64 0, .string (⟨#[]⟩ : ByteArray), .string (⟨#[]⟩ : ByteArray)]) (t := 26) ?hr ?_; (case hd => rfl); (case hg => rfl); (case hr => first | (go_simp; done) | (go_simp; rfl)); intro gb286 hg w8 hbox hb; have BK286 := Aside0.mk (hbox); have GW286 := Aside0.mk ((by rw [hg]; exact (below_size (bl HB.out)) : w.heap.size ≤ gb286)); have GE286 := GW286; replace HB := Aside0.mk (below_step (bl HB.out) hb); clear hb hbox hg))
  replace BK286 := Aside0.mk (blk_drew BK286.out); replace HB := Aside0.mk (below_drew1 HB.out)
  have cvA : ∀ W_ : World, Below w.heap.size w W_ → Sem.run Tryd.prog (convert 29 9 (.slice A0 l0.length c0)) W_ = .ok (.string (strOfNums l0)) W_ := fun W_ hb_ => Kd.C_string (P := Tryd.prog) (A := A0) (c := c0) Tryd.underlying29 Tryd.underlying5 Tryd.underlying9 (Kd.C_below HR0.out hb_)
  have CVA := Aside0.mk cvA; clear cvA
  refine start_ (n := 10) (S := fun w' => Sem.run Tryd.prog (convert 29 9 (.slice A0 l0.length c0)) w' = .ok (.string (strOfNums l0)) w') (ds := []) #[false, false, false, false, false, false, false, false, false, false] (by kernel_rfl) rfl rfl (CVA.out _ (by repeat (first | (with_reducible first | exact HB.out | apply below_alloc | apply pw_below_drewN | apply below_drew1 | apply below_drew | refine below_set ?_ GE286.out) | exact HB.out))) (fun hHeld => ?_); refine with_tabW galleyref05_Of.tab3 galleyref05_Of.bits3 (fun HT_ HW_ => ?_)
  generalize w8.drew = w9 at BK286 HB hHeld ⊢
  refine pure_ (i := 0) (N := some 7) (v := ?_) (a' := ?_) #[true, false, false, false, false, false, false, false, false, false] rfl rfl (any_of HT_.out (by kernel_rfl)) (fun _ _ _ h => h) (Or.inl ⟨by rfl, ?_⟩) ?_ ?_
  rotate_left
  ·intro w'
   go_simp
   with_reducible rfl
  rotate_left
  ·simp only [Act.put, List.setIfInBounds_toArray, List.set_cons_zero, List.set_cons_succ, i64_w, i32_w]
   rfl
  refine pure_ (i := 2) (N := some 9) (v := ?_) (a' := ?_) #[true, false, true, false, false, false, false, false, false, false] rfl rfl (any_of HT_.out (by kernel_rfl)) (fun _ _ _ h => h) (Or.inl ⟨by rfl, ?_⟩) ?_ ?_
  rotate_left
  ·intro w'
   go_simp
   with_reducible rfl
  rotate_left
  ·simp only [Act.put, List.setIfInBounds_toArray, List.set_cons_zero, List.set_cons_succ, i64_w, i32_w]
   rfl
  refine take_ (i := 3) (N := some 10) (v := ?_) (a' := ?_) #[true, false, true, true, false, false, false, false, false, false] rfl rfl (by kernel_rfl) (fun _ _ _ h => h) (Or.inl ⟨by rfl, ?_⟩) hHeld ?_ ?_
  rotate_left
  ·rintro w' cv1_
   go_simp
   with_reducible rfl
  rotate_left
  ·simp only [Act.put, List.setIfInBounds_toArray, List.set_cons_zero, List.set_cons_succ, i64_w, i32_w]
   rfl
  refine pure_ (i := 5) (N := some 12) (v := ?_) (a' := ?_) #[true, false, true, true, false, true, false, false, false, false] rfl rfl (any_of HT_.out (by kernel_rfl)) (fun _ _ _ h => h) (Or.inl ⟨by rfl, ?_⟩) ?_ ?_
  rotate_left
  ·intro w'
   go_simp
   with_reducible rfl
  rotate_left
  ·simp only [Act.put, List.setIfInBounds_toArray, List.set_cons_zero, List.set_cons_succ, i64_w, i32_w]
   rfl
  refine take_ (i := 6) (N := some 13) (v := ?_) (a' := ?_) #[true, false, true, true, false, true, true, false, false, false] rfl rfl (by kernel_rfl) (fun _ _ _ h => h) (Or.inl ⟨by rfl, ?_⟩) hHeld ?_ ?_
  rotate_left
  ·rintro w' cv1_
   go_simp
   with_reducible rfl
  rotate_left
  ·simp only [Act.put, List.setIfInBounds_toArray, List.set_cons_zero, List.set_cons_succ, i64_w, i32_w]
   rfl
  refine one_ (i := 1) (N := some 8) #[true, true, true, true, false, true, true, false, false, false] rfl rfl (one_of HT_.out (by kernel_rfl)) (by decide) (fun K hK => ?_)
  refine goes_ Tryd.func15 (by kernel_rfl) rfl #[.slice A0 l0.length c0] (by rfl) rfl rfl (by (try simp only [List.map_toArray, List.map_cons, List.map_nil]); first | done | rfl | (simp only [List.length_drop, List.length_take]; rfl)) ?_
  with_reducible refine (galleyref05_Sizes.calls k _ _ l0 t287 t288 t289 t290 _ ?side1 ?side2 A5.out).mono ?_
  (case side1 => repeat (first | exact (Kd.C_below HR0.out HB.out) | (with_reducible refine Kd.C_alloc ?_ _) | (with_reducible refine Kd.C_drewN ?_ _) | (with_reducible refine Kd.C_drew ?_)))
  (case side2 => exact HC0.out)
  rintro e w10 ⟨rfl, hb⟩
  refine ⟨_, rfl, ?_⟩
  replace BK286 := Aside0.mk (blk_below (pl BK286.out) hb); replace HB := Aside0.mk (below_step (by repeat (first | (with_reducible first | exact HB.out | apply below_alloc | apply pw_below_drewN | apply below_drew1 | refine below_set ?_ GE286.out) | exact HB.out)) hb)
  (try clear hb)
  (try clear hb2)
  (try clear hk)
  (try clear hi)
  refine hK.out _ _ (CVA.out _ (by repeat (first | (with_reducible first | exact HB.out | apply below_alloc | apply pw_below_drewN | apply below_drew1 | apply below_drew | refine below_set ?_ GE286.out) | exact HB.out))) (fun hHeld => ?_)
  clear hK K
  refine norm_ (a' := ?_) ?_ ?_
  rotate_left
  ·show Act.put _ (some 8) _ = _
   simp only [Act.put, List.setIfInBounds_toArray, List.set_cons_zero, List.set_cons_succ, i64_w, i32_w]
   rfl
  refine one_ (i := 4) (N := some 11) #[true, true, true, true, true, true, true, false, false, false] rfl rfl (one_of HT_.out (by kernel_rfl)) (by decide) (fun K hK => ?_)
  refine goes_ Tryd.func27 (by kernel_rfl) rfl #[.string (strOfNums l0)] (by rfl) rfl rfl (by (try simp only [List.map_toArray, List.map_cons, List.map_nil]); first | done | rfl | (simp only [List.length_drop, List.length_take]; rfl)) ?_
  with_reducible refine (galleyref05_head.calls (strOfNums l0) t291 _ A6.out).mono ?_
  rintro e w12 ⟨rfl, hb⟩
  refine ⟨_, rfl, ?_⟩
  replace BK286 := Aside0.mk (blk_below (pl BK286.out) hb); replace HB := Aside0.mk (below_step (by repeat (first | (with_reducible first | exact HB.out | apply below_alloc | apply pw_below_drewN | apply below_drew1 | refine below_set ?_ GE286.out) | exact HB.out)) hb)
  (try clear hb)
  (try clear hb2)
  (try clear hk)
  (try clear hi)
  refine hK.out _ _ (CVA.out _ (by repeat (first | (with_reducible first | exact HB.out | apply below_alloc | apply pw_below_drewN | apply below_drew1 | apply below_drew | refine below_set ?_ GE286.out) | exact HB.out))) (fun hHeld => ?_)
  clear hK K
  refine norm_ (a' := ?_) ?_ ?_
  rotate_left
  ·show Act.put _ (some 11) _ = _
   simp only [Act.put, List.setIfInBounds_toArray, List.set_cons_zero, List.set_cons_succ, i64_w, i32_w]
   rfl
  refine one_ (i := 7) (N := some 14) #[true, true, true, true, true, true, true, true, false, false] rfl rfl (one_of HT_.out (by kernel_rfl)) (by decide) (fun K hK => ?_)
  refine goes_ Tryd.func28 (by kernel_rfl) rfl #[.string (strOfNums l0)] (by rfl) rfl rfl (by (try simp only [List.map_toArray, List.map_cons, List.map_nil]); first | done | rfl | (simp only [List.length_drop, List.length_take]; rfl)) ?_
  with_reducible refine (galleyref05_tail.calls (strOfNums l0) t292 _ A7.out).mono ?_
  rintro e w15 ⟨rfl, hb⟩
  refine ⟨_, rfl, ?_⟩
  replace BK286 := Aside0.mk (blk_below (pl BK286.out) hb); replace HB := Aside0.mk (below_step (by repeat (first | (with_reducible first | exact HB.out | apply below_alloc | apply pw_below_drewN | apply below_drew1 | refine below_set ?_ GE286.out) | exact HB.out)) hb)
  (try clear hb)
  (try clear hb2)
  (try clear hk)
  (try clear hi)
  refine hK.out _ _ (CVA.out _ (by repeat (first | (with_reducible first | exact HB.out | apply below_alloc | apply pw_below_drewN | apply below_drew1 | apply below_drew | refine below_set ?_ GE286.out) | exact HB.out))) (fun hHeld => ?_)
  clear hK K
  refine norm_ (a' := ?_) ?_ ?_
  rotate_left
  ·show Act.put _ (some 14) _ = _
   simp only [Act.put, List.setIfInBounds_toArray, List.set_cons_zero, List.set_cons_succ, i64_w, i32_w]
   rfl
  refine pure_ (i := 8) (N := some 15) (v := ?_) (a' := ?_) #[true, true, true, true, true, true, true, true, true, false] rfl rfl (any_of HT_.out (by kernel_rfl)) (fun _ _ _ h => h) (Or.inl ⟨by rfl, ?_⟩) ?_ ?_
  rotate_left
  ·intro w'
   go_simp
   with_reducible rfl
  rotate_left
  ·simp only [Act.put, List.setIfInBounds_toArray, List.set_cons_zero, List.set_cons_succ, i64_w, i32_w]
   rfl
  refine one_ (i := 9) (N := none) #[true, true, true, true, true, true, true, true, true, true] rfl rfl (one_of HT_.out (by kernel_rfl)) (by decide) (fun K hK => ?_)
  have hs16 : w15.cell? ⟨gb286, 0, none⟩ = some (.int .i64 0) := (blk_cell BK286.out 0).trans rfl
  have hfs16 := blk_frozen BK286.out 0
  have hs17 : w15.cell? ⟨gb286, 1, none⟩ = some (.int .i64 0) := (blk_cell BK286.out 1).trans rfl
  have hfs17 := blk_frozen BK286.out 1
  have hs18 : w15.cell? ⟨gb286, 2, none⟩ = some (.int .i64 0) := (blk_cell BK286.out 2).trans rfl
  have hfs18 := blk_frozen BK286.out 2
  have hs19 : w15.cell? ⟨gb286, 3, none⟩ = some (.int .i64 0) := (blk_cell BK286.out 3).trans rfl
  have hfs19 := blk_frozen BK286.out 3
  have hs20 : w15.cell? ⟨gb286, 4, none⟩ = some (.string (⟨#[]⟩ : ByteArray)) := (blk_cell BK286.out 4).trans rfl
  have hfs20 := blk_frozen BK286.out 4
  have hs21 : w15.cell? ⟨gb286, 5, none⟩ = some (.string (⟨#[]⟩ : ByteArray)) := (blk_cell BK286.out 5).trans rfl
  have hfs21 := blk_frozen BK286.out 5
  refine skip_ (w1 := ?_) (by rfl) rfl ?_ ?_
  rotate_left
  ·go_simp
   rfl
  refine hK.out _ _ (CVA.out _ (by repeat (first | (with_reducible first | exact HB.out | apply below_alloc | apply pw_below_drewN | apply below_drew1 | apply below_drew | refine below_set ?_ GE286.out) | exact HB.out))) (fun hHeld => ?_)
  clear hK K
  refine done_ (done_of HT_.out (by kernel_rfl)) ?_
  try go_wp2
  refine bodyPost_ret (results_cell_row rfl _ _ gb286 26 #[.int .i64 t287, .int .i64 t288, .int .i64 t289, .int .i64 t290, .string t291, .string t292] (0, 0) _ rfl (by refine pl ?_; refine blk_put (cs := #[.int .i64 t287, .int .i64 t288, .int .i64 t289, .int .i64 t290, .string t291, .string (⟨#[]⟩ : ByteArray)]) ?_ 5 _ rfl; refine pl ?_; refine blk_put (cs := #[.int .i64 t287, .int .i64 t288, .int .i64 t289, .int .i64 t290, .string (⟨#[]⟩ : ByteArray), .string (⟨#[]⟩ : ByteArray)]) ?_ 4 _ rfl; refine pl ?_; refine blk_put (cs := #[.int .i64 t287, .int .i64 t288, .int .i64 t289, .int .i64 0, .string (⟨#[]⟩ : ByteArray), .string (⟨#[]⟩ : ByteArray)]) ?_ 3 _ rfl; refine pl ?_; refine blk_put (cs := #[.int .i64 t287, .int .i64 t288, .int .i64 0, .int .i64 0, .string (⟨#[]⟩ : ByteArray), .string (⟨#[]⟩ : ByteArray)]) ?_ 2 _ rfl; refine pl ?_; refine blk_put (cs := #[.int .i64 t287, .int .i64 0, .int .i64 0, .int .i64 0, .string (⟨#[]⟩ : ByteArray), .string (⟨#[]⟩ : ByteArray)]) ?_ 1 _ rfl; refine pl ?_; refine blk_put (cs := #[.int .i64 0, .int .i64 0, .int .i64 0, .int .i64 0, .string (⟨#[]⟩ : ByteArray), .string (⟨#[]⟩ : ByteArray)]) ?_ 0 _ rfl; refine pl ?_; exact BK286.out) Tryd.underlying26 rfl (by kernel_rfl)) rfl ?_
  exact ⟨by first | rfl | (simp [errW_none, errW_some] <;> rfl) | (simp [*, errW_none, errW_some] <;> rfl), by repeat (first | (with_reducible first | exact HB.out | apply below_alloc | apply pw_below_drewN | apply below_drew1 | refine below_set ?_ GE286.out) | exact HB.out)⟩

-- NOT PRINTED: function 4 (galleylaw05_WeldOf)
end Go.Proofs.YtaojbcplmdjfnaaDoor.Pr

namespace Go.Proofs.YtaojbcplmdjfnaaDoor.PuSz
open Go.RowKit Go.Proofs.YtaojbcplmdjfnaaDoor.Pr Go.Proofs.YtaojbcplmdjfnaaDoor.Math Go.Proofs.YtaojbcplmdjfnaaDoorW.PrintWords Go.Proofs.YtaojbcplmdjfnaaDoorW.PrintLast Go.Proofs.YtaojbcplmdjfnaaDoorW.PrintMore
set_option linter.unusedVariables false
set_option linter.unusedSimpArgs false
theorem w64 {n : Int} (h : -4611686018427387904 ≤ n) (h' : n ≤ 4611686018427387904) : wrap64 n = n := wrap64_in' (by omega) (by omega)
def atI (l : List Int) (p : Int) : Int := if p < 0 then -1 else l.getD p.toNat (-1)
theorem rd_getD (l : List Int) (p : Int) (h : p.toNat < l.length) : rd l p = l.getD p.toNat (-1) := by simp [rd, List.getD, List.getElem?_eq_getElem h]
theorem at_eq (l : List Int) (hb : Byt l) (hl : l.length ≤ 140737488355328) (p : Int) : galleyref02_at.f l p = some (atI l p) := by
  unfold galleyref02_at.f atI
  by_cases h0 : p < 0
  · rw [if_pos h0, if_pos h0]
  · rw [if_neg h0, if_neg h0]
    by_cases h1 : p ≥ (l.length : Int)
    · rw [if_pos h1, getD_m1 l _ (by omega)]
    · rw [if_neg h1, if_pos (by omega), if_pos (by omega), rd_getD l p (by omega)]
      have := hb.getD p.toNat (by omega) (-1)
      rw [w64 (by omega) (by omega)]
theorem in_eq (a lo hi : Int) : galleyref02_in.f a lo hi = some (decide (lo ≤ a ∧ a ≤ hi)) := by
  unfold galleyref02_in.f
  by_cases h : a ≥ lo
  · rw [if_pos h]; congr 1; simp; omega
  · rw [if_neg h]; congr 1; simp; omega
theorem j2_eq (k : Nat) (x y : Int) (b : Bool) : galleyref02_Long.j2 (k + 1) x y b = some (if b = true ∧ (x = 240 ∧ (144 ≤ y ∧ y ≤ 191) ∨ (241 ≤ x ∧ x ≤ 243) ∧ (128 ≤ y ∧ y ≤ 191) ∨ x = 244 ∧ (128 ≤ y ∧ y ≤ 143)) then 4 else 0) := by
  cases b
  · simp [galleyref02_Long.j2]
  · simp only [galleyref02_Long.j2, in_eq, Option.bind_some, decide_eq_true_eq, if_true, true_and]
    (repeat' split) <;> first | rfl | (exfalso; omega)
theorem j1_eq (k : Nat) (x y z w : Int) : galleyref02_Long.j1 (k + 2) x y z w = some (if ((128 ≤ z ∧ z ≤ 191) ∧ (128 ≤ w ∧ w ≤ 191)) ∧ (x = 240 ∧ (144 ≤ y ∧ y ≤ 191) ∨ (241 ≤ x ∧ x ≤ 243) ∧ (128 ≤ y ∧ y ≤ 191) ∨ x = 244 ∧ (128 ≤ y ∧ y ≤ 143)) then 4 else 0) := by
  simp only [galleyref02_Long.j1, in_eq, Option.bind_some, decide_eq_true_eq, j2_eq]
  by_cases hz : 128 ≤ z ∧ z ≤ 191
  · rw [if_pos hz]
    by_cases hw : 128 ≤ w ∧ w ≤ 191 <;> simp [hz, hw]
  · simp [hz]
theorem j0_eq (k : Nat) (x y z w : Int) (b : Bool) (hb : b = true → (194 ≤ x ∧ x ≤ 223) ∧ (128 ≤ y ∧ y ≤ 191)) (hb' : b = false → ¬ ((194 ≤ x ∧ x ≤ 223) ∧ (128 ≤ y ∧ y ≤ 191))) (hx : ¬ (0 ≤ x ∧ x ≤ 127)) :
    galleyref02_Long.j0 (k + 3) x y z w b = some ((lgT x y z w : Nat) : Int) := by
  unfold lgT
  rw [if_neg hx]
  cases b
  · rw [if_neg (hb' rfl)]
    clear hb hb'
    simp only [galleyref02_Long.j0, in_eq, Option.bind_some, decide_eq_true_eq, j1_eq, Bool.false_eq_true, if_false]
    by_cases hz : 128 ≤ z ∧ z ≤ 191
    · by_cases c3 : (128 ≤ z ∧ z ≤ 191) ∧ (x = 224 ∧ (160 ≤ y ∧ y ≤ 191) ∨ (225 ≤ x ∧ x ≤ 236) ∧ (128 ≤ y ∧ y ≤ 191) ∨ x = 237 ∧ (128 ≤ y ∧ y ≤ 159) ∨ (238 ≤ x ∧ x ≤ 239) ∧ (128 ≤ y ∧ y ≤ 191))
      · rw [if_pos c3]
        obtain ⟨_, c⟩ := c3
        rcases c with ⟨rfl, hy⟩ | ⟨hx2, hy⟩ | ⟨rfl, hy⟩ | ⟨hx2, hy⟩
        · rw [if_pos hz, if_pos rfl, if_pos hy]; rfl
        · rw [if_pos hz, if_neg (by omega), if_pos hx2, if_pos hy]; rfl
        · rw [if_pos hz, if_neg (by decide), if_neg (by decide), if_pos rfl, if_pos hy]; rfl
        · rw [if_pos hz, if_neg (by omega), if_neg (by omega), if_neg (by omega), if_pos hx2, if_pos hy]; rfl
      · rw [if_neg c3]
        have hE : (some (((if ((128 ≤ z ∧ z ≤ 191) ∧ (128 ≤ w ∧ w ≤ 191)) ∧ (x = 240 ∧ (144 ≤ y ∧ y ≤ 191) ∨ (241 ≤ x ∧ x ≤ 243) ∧ (128 ≤ y ∧ y ≤ 191) ∨ x = 244 ∧ (128 ≤ y ∧ y ≤ 143)) then 4 else 0 : Nat) : Int)) : Option Int) = some (if ((128 ≤ z ∧ z ≤ 191) ∧ (128 ≤ w ∧ w ≤ 191)) ∧ (x = 240 ∧ (144 ≤ y ∧ y ≤ 191) ∨ (241 ≤ x ∧ x ≤ 243) ∧ (128 ≤ y ∧ y ≤ 191) ∨ x = 244 ∧ (128 ≤ y ∧ y ≤ 143)) then 4 else 0) := by split <;> rfl
        rw [hE]
        generalize (some (if ((128 ≤ z ∧ z ≤ 191) ∧ (128 ≤ w ∧ w ≤ 191)) ∧ (x = 240 ∧ (144 ≤ y ∧ y ≤ 191) ∨ (241 ≤ x ∧ x ≤ 243) ∧ (128 ≤ y ∧ y ≤ 191) ∨ x = 244 ∧ (128 ≤ y ∧ y ≤ 143)) then (4 : Int) else 0)) = E
        clear hE
        have hc : x = 224 ∨ (225 ≤ x ∧ x ≤ 236) ∨ x = 237 ∨ (238 ≤ x ∧ x ≤ 239) ∨ ¬ (224 ≤ x ∧ x ≤ 239) := by omega
        rcases hc with h | h | h | h | h
        · rw [if_pos hz, if_pos h, if_neg (by omega), if_neg (by omega), if_neg (by omega), if_neg (by omega)]
        · rw [if_pos hz, if_neg (by omega), if_pos h, if_neg (by omega), if_neg (by omega), if_neg (by omega)]
        · rw [if_pos hz, if_neg (by omega), if_neg (by omega), if_pos h, if_neg (by omega), if_neg (by omega)]
        · rw [if_pos hz, if_neg (by omega), if_neg (by omega), if_neg (by omega), if_pos h, if_neg (by omega)]
        · rw [if_pos hz, if_neg (by omega), if_neg (by omega), if_neg (by omega), if_neg (by omega)]
    · rw [if_neg hz, if_neg (fun h => hz h.1.1), if_neg (fun h => hz h.1), if_neg (fun h => hz h.1.1)]; rfl
  · rw [if_pos (hb rfl)]
    simp only [galleyref02_Long.j0, if_true]
    rfl
theorem long_eq (k : Nat) (l : List Int) (hb : Byt l) (hl : l.length ≤ 140737488355328) (p : Nat) (hp : p ≤ 140737488355328) : galleyref02_Long.f (k + 3) l p = some ((lg (l.drop p) : Nat) : Int) := by
  have hT : lg (l.drop p) = lgT (atI l p) (atI l (p + 1)) (atI l (p + 2)) (atI l (p + 3)) := by
    have a0 : ∀ k : Nat, atI l ((p : Int) + (k : Nat)) = l.getD (p + k) (-1) := fun k => by
      unfold atI; rw [if_neg (by omega)]; congr 1
    have e0 := a0 0
    have e1 := a0 1
    have e2 := a0 2
    have e3 := a0 3
    rw [Int.natCast_zero, Int.add_zero] at e0
    rw [show ((p : Int) + 1) = (p : Int) + ((1 : Nat) : Int) from rfl, show ((p : Int) + 2) = (p : Int) + ((2 : Nat) : Int) from rfl, show ((p : Int) + 3) = (p : Int) + ((3 : Nat) : Int) from rfl, e0, e1, e2, e3]
    rw [← getD_drop', ← getD_drop', ← getD_drop', ← getD_drop']
    cases l.drop p with
    | nil => rfl
    | cons x t => rfl
  unfold galleyref02_Long.f
  rw [w64 (by omega) (by omega), w64 (by omega) (by omega), w64 (by omega) (by omega)]
  simp only [at_eq l hb hl, in_eq, Option.bind_some, decide_eq_true_eq]
  rw [hT]
  generalize atI l p = x
  generalize atI l (p + 1) = y
  generalize atI l (p + 2) = z
  generalize atI l (p + 3) = w
  by_cases h1 : 0 ≤ x ∧ x ≤ 127
  · rw [if_pos h1]; unfold lgT; rw [if_pos h1]; rfl
  · rw [if_neg h1]
    by_cases h2 : 194 ≤ x ∧ x ≤ 223
    · rw [if_pos h2]
      exact j0_eq k x y z w _ (fun h => ⟨h2, by simpa using h⟩) (fun h h' => by simp [h'.2] at h) h1
    · rw [if_neg h2]
      exact j0_eq k x y z w _ (fun h => by cases h) (fun _ h' => h2 h'.1) h1
theorem inside_eq (k : Nat) (l : List Int) (hb : Byt l) (hl : l.length ≤ 140737488355328) (p : Nat) (hp : p ≤ 140737488355328) : galleyref02_Inside.f (k + 7) l p = some (insB l p) := by
  have step : ∀ (k : Nat) (i : Nat), 1 ≤ i → i ≤ 3 → galleyref02_Inside.l0 (k + 4) l p i = if i ≤ p ∧ i < lg (l.drop (p - i)) then some true else galleyref02_Inside.l0 (k + 3) l p ((i + 1 : Nat) : Int) := by
    intro k i h1 h3
    rw [galleyref02_Inside.l0, if_pos (by omega), w64 (by omega) (by omega), w64 (by omega) (by omega)]
    by_cases h : i ≤ p
    · rw [if_pos (by omega), show (p : Int) - i = ((p - i : Nat) : Int) by omega, long_eq k l hb hl (p - i) (by omega)]
      simp only [Option.bind_some]
      by_cases h' : i < lg (l.drop (p - i))
      · rw [if_pos (by omega), if_pos ⟨h, h'⟩]
      · rw [if_neg (by omega), if_neg (fun c => h' c.2)]; rfl
    · rw [if_neg (by omega), if_neg (fun c => h c.1)]; rfl
  unfold galleyref02_Inside.f
  have s1 := step (k + 3) 1 (by omega) (by omega)
  have s2 := step (k + 2) 2 (by omega) (by omega)
  have s3 := step (k + 1) 3 (by omega) (by omega)
  have s4 : galleyref02_Inside.l0 (k + 4) l p ((4 : Nat) : Int) = some false := by
    simp only [galleyref02_Inside.l0]; rw [if_neg (by omega)]
  rw [show (1 : Int) = ((1 : Nat) : Int) from rfl, s1]
  unfold insB
  by_cases c1 : 1 ≤ p ∧ 1 < lg (l.drop (p - 1))
  · rw [if_pos c1]; simp [c1]
  · rw [if_neg c1, s2]
    by_cases c2 : 2 ≤ p ∧ 2 < lg (l.drop (p - 2))
    · rw [if_pos c2]; simp [c2]
    · rw [if_neg c2, s3]
      by_cases c3 : 3 ≤ p ∧ 3 < lg (l.drop (p - 3))
      · rw [if_pos c3]; simp [c3]
      · rw [if_neg c3, s4, decide_eq_false c1, decide_eq_false c2, decide_eq_false c3]; rfl
theorem edges_l0 (l : List Int) (hb : Byt l) (hl : l.length ≤ 140737488351232) (d : Nat) : ∀ (k : Nat) (acc : List Int) (p : Nat), p + d = l.length + 1 → acc.length ≤ p → acc.length + d ≤ 17592186044416 → d + 8 ≤ k →
    galleyref02_Edges.l0 k l acc p = some (acc ++ (edF l p d).map (fun q : Nat => (q : Int))) := by
  induction d with
  | zero =>
    intro k acc p hp ha hl2 hk
    obtain ⟨k, rfl⟩ : ∃ m, k = m + 1 := ⟨k - 1, by omega⟩
    rw [galleyref02_Edges.l0, if_neg (by omega)]
    simp [edF]
  | succ d ih =>
    intro k acc p hp ha hl2 hk
    obtain ⟨k, rfl⟩ : ∃ m, k = m + 8 := ⟨k - 8, by omega⟩
    rw [galleyref02_Edges.l0, if_pos (by omega), inside_eq k l hb (by omega) p (by omega)]
    simp only [Option.bind_some]
    have hw : wrap64 ((p : Int) + 1) = ((p + 1 : Nat) : Int) := by rw [w64 (by omega) (by omega)]; rfl
    cases hi : insB l p with
    | true =>
      rw [if_pos rfl, hw, ih (k + 7) acc (p + 1) (by omega) (by omega) (by omega) (by omega)]
      congr 2
      unfold edF
      rw [List.range'_succ, List.filter_cons, hi]
      simp
    | false =>
      rw [if_neg (by decide), if_pos (by omega), hw, ih (k + 7) (acc ++ [(p : Int)]) (p + 1) (by omega) (by simp; omega) (by simp; omega) (by omega)]
      congr 1
      unfold edF
      rw [List.range'_succ, List.filter_cons, hi]
      simp
theorem edF_last (l : List Int) (p : Nat) (hp : p ≤ l.length) : edF l p (l.length + 1 - p) = edF l p (l.length - p) ++ [l.length] := by
  unfold edF
  rw [show l.length + 1 - p = (l.length - p) + 1 by omega, ← List.range'_append_1, List.filter_append, show p + (l.length - p) = l.length by omega]
  simp [List.range'_succ, ins_end]
theorem edges_eq (k : Nat) (l : List Int) (hb : Byt l) (hl : l.length ≤ 4294967296) (hk : l.length + 9 ≤ k) : galleyref02_Edges.f k l = some ((edF l 0 l.length ++ [l.length]).map (fun q : Nat => (q : Int))) := by
  unfold galleyref02_Edges.f
  have := edges_l0 l hb (by omega) (l.length + 1) k [] 0 (by omega) (by simp) (by simp; omega) (by omega)
  rw [Int.natCast_zero] at this
  have e := edF_last l 0 (by omega)
  rw [Nat.sub_zero, Nat.sub_zero] at e
  rw [this, e]
  rfl
theorem of_j0 (k : Nat) (x0 : List Int) (x1 x5 x6 : Int) : galleyref02_Of.j0 (k + 1) x0 x1 x5 x6 = galleyref02_Of.l0 k x0 x1 x5 x6 1 := by simp only [galleyref02_Of.j0]
theorem of_end (k : Nat) (x0 : List Int) (x1 x5 x6 x7 : Int) (h : ¬ x7 < x5) : galleyref02_Of.l0 (k + 1) x0 x1 x5 x6 x7 = some (wrap32 x6, x5, true) := by
  simp only [galleyref02_Of.l0]; rw [if_neg h]
theorem of_next (k : Nat) (l : List Int) (hb : Byt l) (p i n : Nat) (r : Int) (hr : 0 ≤ r ∧ r ≤ 2147483647) (hp : p + i < l.length) (hl : l.length ≤ 4294967296) (hi : i < n) (hn : n ≤ 4) :
    galleyref02_Of.l0 (k + 1) l p n r i = galleyref02_Of.l0 k l p n (r * 64 + (l.getD (p + i) (-1)) % 64) ((i + 1 : Nat) : Int) := by
  have hg := hb.getD (p + i) hp (-1)
  simp only [galleyref02_Of.l0]
  have e : ((p : Int) + (i : Int)) = ((p + i : Nat) : Int) := by omega
  rw [if_pos (by omega), e, w64 (by omega) (by omega), if_pos (by omega), if_pos (by omega), rd_getD l _ (by omega)]
  simp only [Int.toNat_natCast]
  have hm : Int.tmod (l.getD (p + i) (-1)) 64 = l.getD (p + i) (-1) % 64 := Int.tmod_eq_emod_of_nonneg hg.1
  rw [w64 (n := l.getD (p + i) (-1)) (by omega) (by omega), hm, w64 (n := r * 64) (by omega) (by omega), w64 (by omega) (by omega), w64 (n := (i : Int) + 1) (by omega) (by omega)]
  rfl
theorem of_eq (k : Nat) (l : List Int) (hb : Byt l) (hl : l.length ≤ 4294967296) (p : Nat) (hp : p < l.length) : galleyref02_Of.f (k + 7) l p = some (ru (l.drop p), ((wd (l.drop p) : Nat) : Int), decide (lg (l.drop p) ≠ 0)) := by
  have h4 := lg_le (l.drop p)
  have hll := lg_len (l.drop p)
  have hu := ru_facts
  unfold galleyref02_Of.f
  rw [long_eq (k + 4) l hb (by omega) p (by omega)]
  simp only [Option.bind_some]
  obtain ⟨x, t, hxt⟩ : ∃ x t, l.drop p = x :: t := by
    cases h : l.drop p with
    | nil => have := congrArg List.length h; simp at this; omega
    | cons x t => exact ⟨x, t, rfl⟩
  have hx : x = l.getD p (-1) := by
    have := getD_drop' l p 0 (-1)
    rw [hxt] at this
    simpa using this
  have g0 := hb.getD p hp (-1)
  have hr := ru_facts x t (by omega)
  have gk : ∀ i, (x :: t).getD i (-1) = l.getD (p + i) (-1) := fun i => by rw [← hxt, getD_drop']
  rw [hxt] at h4 hll ⊢
  have hlt : (x :: t).length = l.length - p := by have := congrArg List.length hxt; simp at this; simp; omega
  have hrd : rd l p = l.getD p (-1) := by rw [rd_getD l p (by simpa using hp)]; simp
  have hc : lg (x :: t) = 0 ∨ lg (x :: t) = 1 ∨ lg (x :: t) = 2 ∨ lg (x :: t) = 3 ∨ lg (x :: t) = 4 := by omega
  rcases hc with e | e | e | e | e
  · rw [e, if_pos (by rfl)]; simp [ru, wd, e]
  · rw [e, if_neg (by decide), if_pos (by omega), if_pos (by omega), if_neg (by decide), if_neg (by decide), if_neg (by decide), of_j0, hrd, of_end _ _ _ _ _ _ (by decide), w64 (by omega) (by omega)]
    simp only [ru, wd, e, List.take_succ_cons, List.take_zero, num]
    rw [wrap32_in' (by omega) (by omega), hx]
    rfl
  · rw [e] at hll
    rw [e, if_neg (by decide), if_pos (by omega), if_pos (by omega), if_pos (by decide), of_j0, hrd]
    have m0 : Int.tmod (wrap64 (l.getD p (-1))) 32 = l.getD p (-1) % 32 := by rw [w64 (by omega) (by omega)]; exact Int.tmod_eq_emod_of_nonneg g0.1
    have g1 := hb.getD (p + 1) (by omega) (-1)
    rw [m0, show ((1 : Int)) = ((1 : Nat) : Int) from rfl, of_next _ l hb p 1 2 _ (by omega) (by omega) hl (by omega) (by omega), of_end _ _ _ _ _ _ (by decide)]
    have := gk 1
    match t, hll, this with
    | y :: t', _, this =>
      simp only [List.getD_cons_succ, List.getD_cons_zero] at this
      simp only [ru, wd, e, List.take_succ_cons, List.take_zero, num] at hr ⊢
      rw [wrap32_in' (by omega) (by omega), hx, this]
      rfl
    | [], hll, _ => simp at hll
  · rw [e] at hll
    rw [e, if_neg (by decide), if_pos (by omega), if_pos (by omega), if_neg (by decide), if_pos (by decide), of_j0, hrd]
    have m0 : Int.tmod (wrap64 (l.getD p (-1))) 16 = l.getD p (-1) % 16 := by rw [w64 (by omega) (by omega)]; exact Int.tmod_eq_emod_of_nonneg g0.1
    have g1 := hb.getD (p + 1) (by omega) (-1)
    have g2 := hb.getD (p + 2) (by omega) (-1)
    rw [m0, show ((1 : Int)) = ((1 : Nat) : Int) from rfl, of_next _ l hb p 1 3 _ (by omega) (by omega) hl (by omega) (by omega), of_next _ l hb p 2 3 _ (by omega) (by omega) hl (by omega) (by omega), of_end _ _ _ _ _ _ (by decide)]
    have e1 := gk 1
    have e2 := gk 2
    match t, hll, e1, e2 with
    | y :: z :: t', _, e1, e2 =>
      simp only [List.getD_cons_succ, List.getD_cons_zero] at e1 e2
      simp only [ru, wd, e, List.take_succ_cons, List.take_zero, num] at hr ⊢
      rw [wrap32_in' (by omega) (by omega), hx, e1, e2]
      rfl
    | [_], hll, _, _ => simp at hll
    | [], hll, _, _ => simp at hll
  · rw [e] at hll
    rw [e, if_neg (by decide), if_pos (by omega), if_pos (by omega), if_neg (by decide), if_neg (by decide), if_pos (by decide), of_j0, hrd]
    have m0 : Int.tmod (wrap64 (l.getD p (-1))) 8 = l.getD p (-1) % 8 := by rw [w64 (by omega) (by omega)]; exact Int.tmod_eq_emod_of_nonneg g0.1
    have g1 := hb.getD (p + 1) (by omega) (-1)
    have g2 := hb.getD (p + 2) (by omega) (-1)
    have g3 := hb.getD (p + 3) (by omega) (-1)
    rw [m0, show ((1 : Int)) = ((1 : Nat) : Int) from rfl, of_next _ l hb p 1 4 _ (by omega) (by omega) hl (by omega) (by omega), of_next _ l hb p 2 4 _ (by omega) (by omega) hl (by omega) (by omega), of_next _ l hb p 3 4 _ (by omega) (by omega) hl (by omega) (by omega), of_end _ _ _ _ _ _ (by decide)]
    have e1 := gk 1
    have e2 := gk 2
    have e3 := gk 3
    match t, hll, e1, e2, e3 with
    | y :: z :: w :: t', _, e1, e2, e3 =>
      simp only [List.getD_cons_succ, List.getD_cons_zero] at e1 e2 e3
      simp only [ru, wd, e, List.take_succ_cons, List.take_zero, num] at hr ⊢
      rw [wrap32_in' (by omega) (by omega), hx, e1, e2, e3]
      rfl
    | [_, _], hll, _, _, _ => simp at hll
    | [_], hll, _, _, _ => simp at hll
    | [], hll, _, _, _ => simp at hll
def stp (l : List Int) (p : Nat) : S57 := ⟨ru (l.drop p), ((wd (l.drop p) : Nat) : Int), decide (lg (l.drop p) ≠ 0)⟩
theorem steps_l0 (l : List Int) (hb : Byt l) (hl : l.length ≤ 4294967296) (E : List Nat) (hE : ∀ p ∈ E, p < l.length) (e : List Int) (he : e = (E ++ [l.length]).map (fun q : Nat => (q : Int))) (hlen : E.length ≤ l.length) (d : Nat) :
    ∀ (k : Nat) (acc : List S57) (i : Nat), i + d = E.length → acc.length = i → d + 8 ≤ k → galleyref02_Steps.l0 k l acc e i = some (acc ++ (E.drop i).map (stp l)) := by
  subst he
  have hel : ((E ++ [l.length]).map (fun q : Nat => (q : Int))).length = E.length + 1 := by simp
  induction d with
  | zero =>
    intro k acc i hi ha hk
    obtain ⟨k, rfl⟩ : ∃ m, k = m + 1 := ⟨k - 1, by omega⟩
    rw [galleyref02_Steps.l0, w64 (by omega) (by omega), if_neg (by omega), List.drop_of_length_le (by omega)]
    simp
  | succ d ih =>
    intro k acc i hi ha hk
    obtain ⟨k, rfl⟩ : ∃ m, k = m + 8 := ⟨k - 8, by omega⟩
    rw [galleyref02_Steps.l0, w64 (by omega) (by omega), if_pos (by omega), if_pos (by omega), if_pos (by omega)]
    have hiE : i < E.length := by omega
    have hr : rd ((E ++ [l.length]).map (fun q : Nat => (q : Int))) (i : Int) = ((E[i]'hiE : Nat) : Int) := by
      rw [rd_getD _ _ (by omega)]
      simp only [Int.toNat_natCast]
      rw [List.map_append, getD_app _ _ _ (by simpa using hiE)]
      simp [List.getD, List.getElem?_eq_getElem hiE]
    rw [hr, of_eq k l hb hl _ (hE _ (List.getElem_mem _))]
    simp only [Option.bind_some]
    rw [if_pos (by omega), show (i : Int) + 1 = ((i + 1 : Nat) : Int) from rfl, ih (k + 7) _ (i + 1) (by omega) (by simp; omega) (by omega)]
    rw [List.drop_eq_getElem_cons hiE, List.map_cons]
    simp only [List.append_assoc, List.cons_append, List.nil_append]
    rfl
theorem edF_lt (l : List Int) (p n : Nat) (q : Nat) (h : q ∈ edF l p n) : q < p + n := by
  unfold edF at h
  have := (List.mem_filter.1 h).1
  rw [List.mem_range'_1] at this
  exact this.2
theorem edF_length (l : List Int) (p n : Nat) : (edF l p n).length ≤ n := by
  unfold edF
  exact Nat.le_trans (List.length_filter_le _ _) (by simp)
theorem steps_eq (k : Nat) (l : List Int) (hb : Byt l) (hl : l.length ≤ 4294967296) (hk : l.length + 9 ≤ k) : galleyref02_Steps.f k l = some ((edF l 0 l.length).map (stp l)) := by
  unfold galleyref02_Steps.f
  rw [edges_eq k l hb hl hk]
  simp only [Option.bind_some]
  have hn := edF_length l 0 l.length
  have := steps_l0 l hb hl (edF l 0 l.length) (fun p hp => by have := edF_lt l 0 l.length p hp; omega) _ rfl hn (edF l 0 l.length).length k [] 0 (by omega) rfl (by omega)
  rw [Int.natCast_zero] at this
  rw [this]
  rfl
theorem units_eq (l : List Int) (p : Nat) (hp : p < l.length) (hb : Byt l) (c : Bool) : galleyref05_units.f (ru (l.drop p)) ((wd (l.drop p) : Nat) : Int) c = some (if lg (l.drop p) = 4 then 2 else 1) := by
  obtain ⟨x, t, hxt⟩ : ∃ x t, l.drop p = x :: t := by
    cases h : l.drop p with
    | nil => have := congrArg List.length h; simp at this; omega
    | cons x t => exact ⟨x, t, rfl⟩
  have h0 : 0 ≤ x := (hb.drop p x (by rw [hxt]; simp)).1
  have := (ru_facts x t h0).2.2.1
  unfold galleyref05_units.f
  rw [hxt]
  by_cases h : lg (x :: t) = 4
  · rw [if_pos (this.2 h), if_pos h]
  · rw [if_neg (fun c => h (this.1 c)), if_neg h]
theorem count_edges (l : List Int) (n : Nat) : ∀ p, l.length - p = n → p ≤ l.length → insB l p = false →
    (((edF l p (l.length - p)).length : Nat) : Int) = rn (l.drop p) ∧ ((edF l p (l.length - p)).map (fun q => if lg (l.drop q) = 4 then (2 : Int) else 1)).sum = rn (l.drop p) + fr (l.drop p) := by
  induction n using Nat.strongRecOn with
  | ind n ih =>
    intro p hn hp he
    by_cases hlt : p < l.length
    · have hs := ins_step l p he
      have hw := wd_pos (l.drop p)
      have hwl : p + wd (l.drop p) ≤ l.length := by
        have := lg_len (l.drop p); simp at this
        unfold wd; split <;> omega
      have h := ih (l.length - (p + wd (l.drop p))) (by omega) (p + wd (l.drop p)) rfl hwl hs.2
      rw [edF_step l p hlt he]
      obtain ⟨x, t, hxt⟩ : ∃ x t, l.drop p = x :: t := by
        cases h : l.drop p with
        | nil => have := congrArg List.length h; simp at this; omega
        | cons x t => exact ⟨x, t, rfl⟩
      have hdd : l.drop (p + wd (l.drop p)) = (x :: t).drop (wd (x :: t)) := by rw [← hxt, List.drop_drop]
      rw [hdd] at h
      rw [List.length_cons, List.map_cons, List.sum_cons, h.2]
      rw [hxt] at h ⊢
      rw [rn_step, fr_step]
      refine ⟨by omega, ?_⟩
      split <;> omega
    · have : p = l.length := by omega
      subst this
      simp [edF, rn, fr]
theorem rd_T_at (L : List S57) (i : Nat) (h : i < L.length) : rd_T57 L (i : Int) = L[i] := by
  simp [rd_T57, rdOf, List.getD, List.getElem?_eq_getElem h]
theorem sizes_l0_end (l : List Int) (S : List S57) (z0 z1 z2 z3 : Int) (k : Nat) (i : Nat) (h : S.length ≤ i) : galleyref05_Sizes.l0 (k + 1) l S i z0 z1 z2 z3 = galleyref05_Sizes.l1 k l 0 z0 z1 z2 z3 := by
  rw [galleyref05_Sizes.l0, if_neg (by omega)]
theorem sizes_l0_next (l : List Int) (hb : Byt l) (S : List S57) (z0 z1 z2 z3 : Int) (k : Nat) (i : Nat) (h : i < S.length) (q : Nat) (hq : q < l.length) (hS : S[i] = stp l q) (hl : S.length ≤ 4294967296) (h1 : 0 ≤ z1 ∧ z1 ≤ 4294967296) (h2 : 0 ≤ z2 ∧ z2 ≤ 8589934592) :
    galleyref05_Sizes.l0 (k + 1) l S i z0 z1 z2 z3 = galleyref05_Sizes.l0 k l S ((i + 1 : Nat) : Int) z0 (z1 + 1) (z2 + if lg (l.drop q) = 4 then 2 else 1) z3 := by
  have hu : (if lg (l.drop q) = 4 then (2 : Int) else 1) = 2 ∨ (if lg (l.drop q) = 4 then (2 : Int) else 1) = 1 := by split <;> simp
  rw [galleyref05_Sizes.l0, if_pos (by omega), if_pos (by omega), rd_T_at _ i h, hS]
  have hun := units_eq l q hq hb (decide (lg (l.drop q) ≠ 0))
  have e : galleyref05_units.f (stp l q).f0 (stp l q).f1 (stp l q).f2 = some (if lg (l.drop q) = 4 then 2 else 1) := hun
  rw [e, Option.bind_some, w64 (n := (i : Int) + 1) (by omega) (by omega), w64 (n := z1 + 1) (by omega) (by omega), w64 (by omega) (by omega)]
  rfl
theorem sizes_l0 (l : List Int) (hb : Byt l) (hl : l.length ≤ 4294967296) (E : List Nat) (hE : ∀ p ∈ E, p < l.length) (hlen : E.length ≤ l.length) (z0 z3 : Int) (d : Nat) :
    ∀ (k : Nat) (i : Nat) (z1 z2 : Int), i + d = E.length → z1 = i → 0 ≤ z2 → z2 ≤ 2 * i → galleyref05_Sizes.l0 (k + d + 1) l (E.map (stp l)) i z0 z1 z2 z3 =
      galleyref05_Sizes.l1 k l 0 z0 (E.length : Int) (z2 + ((E.drop i).map (fun q => if lg (l.drop q) = 4 then (2 : Int) else 1)).sum) z3 := by
  induction d with
  | zero =>
    intro k i z1 z2 hi h1 h2 h3
    have hz : z1 = (E.length : Int) := by omega
    rw [List.drop_of_length_le (by omega), hz]
    rw [show k + 0 + 1 = k + 1 from rfl, sizes_l0_end l _ _ _ _ _ k i (by rw [List.length_map]; omega)]
    simp
  | succ d ih =>
    intro k i z1 z2 hi h1 h2 h3
    have hiE : i < E.length := by omega
    have hu : (if lg (l.drop E[i]) = 4 then (2 : Int) else 1) = 2 ∨ (if lg (l.drop E[i]) = 4 then (2 : Int) else 1) = 1 := by split <;> simp
    have hn := sizes_l0_next l hb (E.map (stp l)) z0 z1 z2 z3 (k + d + 1) i (by rw [List.length_map]; exact hiE) E[i] (hE _ (List.getElem_mem _)) (by simp) (by rw [List.length_map]; omega) (by omega) (by omega)
    have hi2 := ih k (i + 1) (z1 + 1) (z2 + if lg (l.drop E[i]) = 4 then 2 else 1) (by omega) (by omega) (by omega) (by omega)
    rw [show k + (d + 1) + 1 = k + d + 1 + 1 from rfl, hn, hi2, List.drop_eq_getElem_cons hiE, List.map_cons, List.sum_cons, Int.add_assoc]
theorem sizes_l1 (l : List Int) (hb : Byt l) (hl : l.length ≤ 4294967296) (z0 z1 z2 : Int) (d : Nat) :
    ∀ (k : Nat) (i : Nat) (z3 : Int), i + d = l.length → 0 ≤ z3 → z3 ≤ i → galleyref05_Sizes.l1 (k + d + 1) l i z0 z1 z2 z3 = some (z0, z1, z2, z3 + en (if i = 0 then 0 else l.getD (i - 1) (-1)) (l.drop i)) := by
  induction d with
  | zero =>
    intro k i z3 hi h1 h2
    rw [galleyref05_Sizes.l1, if_neg (by omega), List.drop_of_length_le (by omega)]
    simp [en]
  | succ d ih =>
    intro k i z3 hi h1 h2
    have hil : i < l.length := by omega
    have hg : l.drop i = l.getD i (-1) :: l.drop (i + 1) := by
      rw [List.drop_eq_getElem_cons hil]
      simp [List.getD, List.getElem?_eq_getElem hil]
    have s1 : wrap64 ((i : Int) + 1) = ((i + 1 : Nat) : Int) := by rw [w64 (by omega) (by omega)]; rfl
    have s3 : wrap64 (z3 + 1) = z3 + 1 := w64 (by omega) (by omega)
    have i1 := ih k (i + 1) (z3 + 1) (by omega) (by omega) (by omega)
    have i0 := ih k (i + 1) z3 (by omega) (by omega) (by omega)
    rw [if_neg (by omega), Nat.add_sub_cancel] at i1 i0
    rw [← Nat.add_assoc k d 1, galleyref05_Sizes.l1, if_pos (by omega), if_pos (by omega), rd_getD l _ (by simpa using hil), s1, s3, hg]
    simp only [Int.toNat_natCast, en]
    by_cases h10 : l.getD i (-1) = 10
    · rw [if_pos h10]
      by_cases hz : i = 0
      · subst hz
        rw [if_pos rfl, i1, if_pos (Or.inr ⟨h10, by decide⟩)]
        simp; omega
      · have sp : wrap64 ((i : Int) - 1) = ((i - 1 : Nat) : Int) := by rw [w64 (by omega) (by omega)]; omega
        rw [if_neg (by omega), sp, if_pos (by omega), if_pos (by omega), rd_getD l _ (by simp; omega), Int.toNat_natCast, if_neg hz]
        by_cases h13 : l.getD (i - 1) (-1) = 13
        · rw [if_pos h13, if_neg (by omega), i0, if_neg (by omega)]; simp
        · rw [if_neg h13, i1, if_pos (Or.inr ⟨h10, h13⟩)]; simp; omega
    · rw [if_neg h10]
      by_cases h13 : l.getD i (-1) = 13
      · rw [if_pos h13, i1, if_pos (Or.inl h13)]; simp; omega
      · rw [if_neg h13, i0, if_neg (by omega)]; simp
theorem refSizes_eq (k : Nat) (l : List Int) (hb : Byt l) (hl : l.length ≤ 4294967296) (hk : 2 * l.length + 12 ≤ k) : galleyref05_Sizes.f k l = some ((l.length : Int), rn l, rn l + fr l, en 0 l) := by
  unfold galleyref05_Sizes.f
  rw [steps_eq k l hb hl (by omega)]
  simp only [Option.bind_some]
  have hn := edF_length l 0 l.length
  have hc := count_edges l (l.length - 0) 0 rfl (by omega) (insB_zero l)
  rw [Nat.sub_zero, List.drop_zero] at hc
  have hs := sizes_l0 l hb hl (edF l 0 l.length) (fun p hp => by have := edF_lt l 0 l.length p hp; omega) hn (l.length : Int) 0 (edF l 0 l.length).length (k - (edF l 0 l.length).length - 1) 0 0 0 (by omega) rfl (by omega) (by omega)
  rw [show k - (edF l 0 l.length).length - 1 + (edF l 0 l.length).length + 1 = k by omega, Int.natCast_zero, List.drop_zero, hc.2, hc.1] at hs
  rw [hs]
  have h1 := sizes_l1 l hb hl (l.length : Int) (rn l) (0 + (rn l + fr l)) l.length (k - (edF l 0 l.length).length - 1 - l.length - 1) 0 0 (by omega) (by omega) (by omega)
  rw [show k - (edF l 0 l.length).length - 1 - l.length - 1 + l.length + 1 = k - (edF l 0 l.length).length - 1 by omega, Int.natCast_zero, List.drop_zero, if_pos rfl, Int.zero_add, Int.zero_add] at h1
  rw [Int.zero_add, h1]
theorem stepF_eq (l : List Int) (hb : Byt l) (p : Nat) (hp : p < l.length) : (stepF ((strOfNums l).extract p (strOfNums l).size)).1 = ru (l.drop p) := by
  have hd : (Utf8.decode ((strOfNums l).extract p (strOfNums l).size) 0).1 = (Utf8.decode (strOfNums l) p).1 := by
    rw [Lib.tail_decode, Nat.add_zero]
  have he := (decode_eq l hb p hp).1
  unfold stepF
  rw [hd, ← he]
  split
  · rename_i h; rw [h.1]; rfl
  · rfl
theorem szAll_eq (l : List Int) (hb : Byt l) (hl : l.length ≤ 4294967296) (fuel : Nat) : ∀ (p : Nat) (z : Int × Int × Int × Int), p ≤ l.length → l.length ≤ p + fuel → 0 ≤ z.1 → z.1 ≤ p → 0 ≤ z.2.1 → z.2.1 ≤ 2 * p → 0 ≤ z.2.2.1 → z.2.2.1 ≤ p →
    ((stepsN (strOfNums l) fuel p).foldl szStep z).1 = z.1 + rn (l.drop p) ∧ ((stepsN (strOfNums l) fuel p).foldl szStep z).2.1 = z.2.1 + (rn (l.drop p) + fr (l.drop p)) ∧ ((stepsN (strOfNums l) fuel p).foldl szStep z).2.2.1 = z.2.2.1 + en z.2.2.2 (l.drop p) := by
  have hsz : (strOfNums l).size = l.length := by
    show (strOfNums l).data.size = _
    rw [← Array.length_toList, strOfNums_data, List.length_map]
  induction fuel with
  | zero =>
    intro p z hp hf _ _ _ _ _ _
    have : p = l.length := by omega
    subst this
    simp [stepsN, rn, fr, en]
  | succ fuel ih =>
    intro p z hp hf h1 h2 h3 h4 h5 h6
    by_cases hlt : p < l.length
    · have hd := decode_eq l hb p hlt
      have hw := wd_pos (l.drop p)
      have hwl : p + wd (l.drop p) ≤ l.length := by
        have := lg_len (l.drop p); simp at this
        unfold wd; split <;> omega
      obtain ⟨x, t, hxt⟩ : ∃ x t, l.drop p = x :: t := by
        cases h : l.drop p with
        | nil => have := congrArg List.length h; simp at this; omega
        | cons x t => exact ⟨x, t, rfl⟩
      have h0 : 0 ≤ x := (hb.drop p x (by rw [hxt]; simp)).1
      have hr := ru_facts x t h0
      have hdd : l.drop (p + wd (l.drop p)) = (x :: t).drop (wd (x :: t)) := by rw [← hxt, List.drop_drop]
      rw [stepsN, if_pos (by rw [hsz]; exact hlt), List.foldl_cons, hd.2]
      have hun : unitsN (ru (l.drop p)) = if lg (x :: t) = 4 then 2 else 1 := by
        unfold unitsN
        rw [hxt]
        by_cases h : lg (x :: t) = 4
        · rw [if_pos (hr.2.2.1.2 h), if_pos h]
        · rw [if_neg (fun c => h (hr.2.2.1.1 c)), if_neg h]
      have hu : (if lg (x :: t) = 4 then (2 : Int) else 1) = 2 ∨ (if lg (x :: t) = 4 then (2 : Int) else 1) = 1 := by split <;> simp
      have hst : szStep z (p, stepF ((strOfNums l).extract p (strOfNums l).size)) = (z.1 + 1, z.2.1 + (if lg (x :: t) = 4 then 2 else 1), z.2.2.1 + (if ru (x :: t) = 13 ∨ (ru (x :: t) = 10 ∧ z.2.2.2 ≠ 13) then 1 else 0), ru (x :: t)) := by
        unfold szStep
        simp only [stepF_eq l hb p hlt]
        rw [hun, w64 (by omega) (by omega), w64 (by omega) (by omega), w64 (by omega) (by omega), hxt]
        congr 3
        split <;> simp
      have hen : (if ru (x :: t) = 13 ∨ (ru (x :: t) = 10 ∧ z.2.2.2 ≠ 13) then (1 : Int) else 0) = 1 ∨ (if ru (x :: t) = 13 ∨ (ru (x :: t) = 10 ∧ z.2.2.2 ≠ 13) then (1 : Int) else 0) = 0 := by split <;> simp
      rw [hst]
      have hi := ih (p + wd (l.drop p)) (z.1 + 1, z.2.1 + (if lg (x :: t) = 4 then 2 else 1), z.2.2.1 + (if ru (x :: t) = 13 ∨ (ru (x :: t) = 10 ∧ z.2.2.2 ≠ 13) then 1 else 0), ru (x :: t)) hwl (by omega)
        (by show 0 ≤ z.1 + 1; omega) (by show z.1 + 1 ≤ ((p + wd (l.drop p) : Nat) : Int); omega) (by show 0 ≤ z.2.1 + _; omega) (by show z.2.1 + _ ≤ 2 * ((p + wd (l.drop p) : Nat) : Int); omega) (by show 0 ≤ z.2.2.1 + _; omega) (by show z.2.2.1 + _ ≤ ((p + wd (l.drop p) : Nat) : Int); omega)
      obtain ⟨i1, i2, i3⟩ := hi
      refine ⟨i1.trans ?_, i2.trans ?_, i3.trans ?_⟩
      · rw [hdd, hxt, rn_step]; show z.1 + 1 + _ = _; omega
      · rw [hdd, hxt, rn_step, fr_step]
        show z.2.1 + _ + _ = _
        have : (if lg (x :: t) = 4 then (2 : Int) else 1) = 1 + (if lg (x :: t) = 4 then 1 else 0) := by split <;> rfl
        omega
      · rw [hdd, hxt, en_step _ _ _ h0]; show z.2.2.1 + _ + en (ru (x :: t)) _ = _; omega
    · have : p = l.length := by omega
      subst this
      rw [stepsN, if_neg (by rw [hsz]; exact hlt)]
      simp [rn, fr, en]
theorem weldSizes_eq (l : List Int) (hb : Byt l) (hl : l.length ≤ 4294967296) : weld_Sizes.f l = some ((l.length : Int), rn l, rn l + fr l, en 0 l) := by
  have hsz : (strOfNums l).size = l.length := by
    show (strOfNums l).data.size = _
    rw [← Array.length_toList, strOfNums_data, List.length_map]
  have h := szAll_eq l hb hl (strOfNums l).size 0 (0, 0, 0, 0) (by omega) (by rw [hsz]; omega) (by decide) (by decide) (by decide) (by decide) (by decide) (by decide)
  rw [List.drop_zero] at h
  unfold weld_Sizes.f szAll
  rw [h.1, h.2.1, h.2.2]
  simp
end Go.Proofs.YtaojbcplmdjfnaaDoor.PuSz

namespace Go.Proofs.YtaojbcplmdjfnaaDoor.Pr
open Go.RowKit Go.Proofs.YtaojbcplmdjfnaaDoorW.PrintWords Go.Proofs.YtaojbcplmdjfnaaDoorW.PrintLast Go.Proofs.YtaojbcplmdjfnaaDoorW.PrintMore
attribute [local go_sem] max2_int min2_int max_two min_two max_three min_three max_four min_four   -- for this text's walks alone
set_option linter.unusedVariables false
set_option linter.unusedSimpArgs false
attribute [local go_sem high] eqA24
def galleyref05_all.f (a0_0 : Int) (a0_1 : Int) (a0_2 : Int) (a0_3 : Int) (a0_4 : ByteArray) (a0_5 : ByteArray) : Option (ByteArray × Bool) := if a0_0 ≤ 3 then (some (a0_4, (a0_4.toList == a0_5.toList))) else (if 0 ≤ (wrap64 (6 - a0_0)) then (if (wrap64 (6 - a0_0)) ≤ (a0_5.size : Int) then (if a0_4.size + (a0_5.extract ((wrap64 (6 - a0_0)) : Int).toNat a0_5.size).size ≤ 9223372036854775807 then (if 0 ≤ (wrap64 (3 - (wrap64 (6 - a0_0)))) then (if (wrap64 (3 - (wrap64 (6 - a0_0)))) ≤ (a0_4.size : Int) then (some (a0_4 ++ (a0_5.extract ((wrap64 (6 - a0_0)) : Int).toNat a0_5.size), ((a0_4.extract ((wrap64 (3 - (wrap64 (6 - a0_0)))) : Int).toNat a0_4.size).toList == (a0_5.extract 0 ((wrap64 (6 - a0_0)) : Int).toNat).toList))) else (none)) else (none)) else (none)) else (none)) else (none))
set_option maxHeartbeats 8000000 in
set_option maxRecDepth 100000 in
theorem galleyref05_all.calls (a0_0 : Int) (a0_1 : Int) (a0_2 : Int) (a0_3 : Int) (a0_4 : ByteArray) (a0_5 : ByteArray) (r1 : ByteArray) (r2 : Bool) (w : World) (h : galleyref05_all.f a0_0 a0_1 a0_2 a0_3 a0_4 a0_5 = some (r1, r2)) :
  Calls Tryd.prog 31 #[.agg #[.int .i64 a0_0, .int .i64 a0_1, .int .i64 a0_2, .int .i64 a0_3, .string a0_4, .string a0_5]] w fun e w' => e = .returned (.tuple #[.string r1, .bool r2]) ∧ Below w.heap.size w w' := by
 have hu26 := Tryd.underlying26
 have HB := Aside0.mk (Below.refl w.heap.size w)
 have H : (if a0_0 ≤ 3 then (some (a0_4, (a0_4.toList == a0_5.toList))) else (if 0 ≤ (wrap64 (6 - a0_0)) then (if (wrap64 (6 - a0_0)) ≤ (a0_5.size : Int) then (if a0_4.size + (a0_5.extract ((wrap64 (6 - a0_0)) : Int).toNat a0_5.size).size ≤ 9223372036854775807 then (if 0 ≤ (wrap64 (3 - (wrap64 (6 - a0_0)))) then (if (wrap64 (3 - (wrap64 (6 - a0_0)))) ≤ (a0_4.size : Int) then (some (a0_4 ++ (a0_5.extract ((wrap64 (6 - a0_0)) : Int).toNat a0_5.size), ((a0_4.extract ((wrap64 (3 - (wrap64 (6 - a0_0)))) : Int).toNat a0_4.size).toList == (a0_5.extract 0 ((wrap64 (6 - a0_0)) : Int).toNat).toList))) else (none)) else (none)) else (none)) else (none)) else (none))) = some (r1, r2) := h
 clear h
 by_cases c2 : a0_0 ≤ 3
 ·rw [if_pos c2] at H
  have c2b0 : decide (a0_0 ≤ 3) = true := decide_eq_true c2
  clear c2
  simp only [Option.some.injEq, Prod.mk.injEq] at H
  obtain ⟨rfl, rfl⟩ := H
  go_enter Tryd.func31, Tryd.ntmps31
  go_wp2_with (first | ((with_reducible refine gate_dst (N := 1) rfl ?_); refine box_event ?hg (N := 1) ?hd (cs := #[.int .i64 a0_0, .int .i64 a0_1, .int .i64 a0_2, .int .i64 a0_3, .string a0_4, .string a0_5]) (t := 26) ?hr ?_; (case hd => rfl); (case hg => rfl); (case hr => first | (go_simp; done) | (go_simp; rfl)); intro gb294 hg w3 hbox hb; have BK294 := Aside0.mk (hbox); have GW294 := Aside0.mk ((by rw [hg]; exact (below_size (bl HB.out)) : w.heap.size ≤ gb294)); have GE294 := GW294; replace HB := Aside0.mk (below_step (bl HB.out) hb); clear hb hbox hg; obtain ⟨hcz4_0, hcz4_1, hcz4_2, hcz4_3, hcz4_4, hcz4_5⟩ := Go.Proofs.YtaojbcplmdjfnaaDoorW.PrintWords.c6 BK294.out; obtain ⟨hfz4_0, hfz4_1, hfz4_2, hfz4_3, hfz4_4, hfz4_5⟩ := f6 BK294.out))
  repeat (go_quiet (first | ((with_reducible refine gate_dst (N := 1) rfl ?_); refine box_event ?hg (N := 1) ?hd (cs := #[.int .i64 a0_0, .int .i64 a0_1, .int .i64 a0_2, .int .i64 a0_3, .string a0_4, .string a0_5]) (t := 26) ?hr ?_; (case hd => rfl); (case hg => rfl); (case hr => first | (go_simp; done) | (go_simp; rfl)); intro gb294 hg w3 hbox hb; have BK294 := Aside0.mk (hbox); have GW294 := Aside0.mk ((by rw [hg]; exact (below_size (bl HB.out)) : w.heap.size ≤ gb294)); have GE294 := GW294; replace HB := Aside0.mk (below_step (bl HB.out) hb); clear hb hbox hg; obtain ⟨hcz4_0, hcz4_1, hcz4_2, hcz4_3, hcz4_4, hcz4_5⟩ := Go.Proofs.YtaojbcplmdjfnaaDoorW.PrintWords.c6 BK294.out; obtain ⟨hfz4_0, hfz4_1, hfz4_2, hfz4_3, hfz4_4, hfz4_5⟩ := f6 BK294.out)); try go_wp2_with (first | ((with_reducible refine gate_dst (N := 1) rfl ?_); refine box_event ?hg (N := 1) ?hd (cs := #[.int .i64 a0_0, .int .i64 a0_1, .int .i64 a0_2, .int .i64 a0_3, .string a0_4, .string a0_5]) (t := 26) ?hr ?_; (case hd => rfl); (case hg => rfl); (case hr => first | (go_simp; done) | (go_simp; rfl)); intro gb294 hg w3 hbox hb; have BK294 := Aside0.mk (hbox); have GW294 := Aside0.mk ((by rw [hg]; exact (below_size (bl HB.out)) : w.heap.size ≤ gb294)); have GE294 := GW294; replace HB := Aside0.mk (below_step (bl HB.out) hb); clear hb hbox hg; obtain ⟨hcz4_0, hcz4_1, hcz4_2, hcz4_3, hcz4_4, hcz4_5⟩ := Go.Proofs.YtaojbcplmdjfnaaDoorW.PrintWords.c6 BK294.out; obtain ⟨hfz4_0, hfz4_1, hfz4_2, hfz4_3, hfz4_4, hfz4_5⟩ := f6 BK294.out)))
  go_ret2
  exact ⟨by first | rfl | (simp [errW_none, errW_some] <;> rfl) | (simp [*, errW_none, errW_some] <;> rfl), by repeat (first | (with_reducible first | exact HB.out | apply below_alloc | apply pw_below_drewN | apply below_drew1 | refine below_set ?_ GE294.out) | exact HB.out)⟩
 ·rw [if_neg c2] at H
  have c2b0 : decide (a0_0 ≤ 3) = false := decide_eq_false c2
  clear c2
  obtain ⟨ji5, hji5⟩ : ∃ j_ : Int, (wrap64 (6 - a0_0)) = j_ := ⟨_, rfl⟩
  replace H : (if 0 ≤ (ji5) then (if (ji5) ≤ (a0_5.size : Int) then (if a0_4.size + (a0_5.extract ((ji5) : Int).toNat a0_5.size).size ≤ 9223372036854775807 then (if 0 ≤ (wrap64 (3 - (ji5))) then (if (wrap64 (3 - (ji5))) ≤ (a0_4.size : Int) then (some (a0_4 ++ (a0_5.extract ((ji5) : Int).toNat a0_5.size), ((a0_4.extract ((wrap64 (3 - (ji5))) : Int).toNat a0_4.size).toList == (a0_5.extract 0 ((ji5) : Int).toNat).toList))) else (none)) else (none)) else (none)) else (none)) else (none)) = some (r1, r2) := by first | (rw [hji5] at H; exact H) | (simp only [hji5] at H ⊢; exact H)
  have hji5w : (IntKind.i64.wrap (6 - a0_0)) = ji5 := (i64_w _).trans hji5
  by_cases c6 : 0 ≤ (ji5)
  ·rw [if_pos c6] at H
   have c6b0 := eq_true c6
   have c6b1 : decide (0 ≤ (ji5)) = true := decide_eq_true c6
   clear c6
   by_cases c7 : (ji5) ≤ (a0_5.size : Int)
   ·rw [if_pos c7] at H
    have c7b0 := eq_true c7
    have c7b1 : decide ((ji5) ≤ (a0_5.size : Int)) = true := decide_eq_true c7
    clear c7
    by_cases c8 : a0_4.size + (a0_5.extract ((ji5) : Int).toNat a0_5.size).size ≤ 9223372036854775807
    ·rw [if_pos c8] at H
     have c8b0 := eq_true c8
     have c8b1 : decide (a0_4.size + (a0_5.extract ((ji5) : Int).toNat a0_5.size).size ≤ 9223372036854775807) = true := decide_eq_true c8
     try have c8b2 : (9223372036854775807 < a0_4.size + (a0_5.extract ((ji5) : Int).toNat a0_5.size).size) = False := eq_false (Nat.not_lt.2 c8)
     obtain ⟨ji9, hji9⟩ : ∃ j_ : Int, (wrap64 (3 - (ji5))) = j_ := ⟨_, rfl⟩
     replace H : (if 0 ≤ (ji9) then (if (ji9) ≤ (a0_4.size : Int) then (some (a0_4 ++ (a0_5.extract ((ji5) : Int).toNat a0_5.size), ((a0_4.extract ((ji9) : Int).toNat a0_4.size).toList == (a0_5.extract 0 ((ji5) : Int).toNat).toList))) else (none)) else (none)) = some (r1, r2) := by first | (rw [hji9] at H; exact H) | (simp only [hji9] at H ⊢; exact H)
     have hji9w : (IntKind.i64.wrap (3 - (ji5))) = ji9 := (i64_w _).trans hji9
     by_cases c10 : 0 ≤ (ji9)
     ·rw [if_pos c10] at H
      have c10b0 := eq_true c10
      have c10b1 : decide (0 ≤ (ji9)) = true := decide_eq_true c10
      clear c10
      by_cases c11 : (ji9) ≤ (a0_4.size : Int)
      ·rw [if_pos c11] at H
       have c11b0 := eq_true c11
       have c11b1 : decide ((ji9) ≤ (a0_4.size : Int)) = true := decide_eq_true c11
       clear c11
       have c12b0 := eq_true (of_decide_eq_true (by first | (with_reducible assumption) | assumption) : 0 ≤ (ji5))
       have c13b0 := eq_true (of_decide_eq_true (by first | (with_reducible assumption) | assumption) : (ji5) ≤ (a0_5.size : Int))
       simp only [Option.some.injEq, Prod.mk.injEq] at H
       obtain ⟨rfl, rfl⟩ := H
       go_enter Tryd.func31, Tryd.ntmps31
       go_wp2_with (first | ((with_reducible refine gate_dst (N := 1) rfl ?_); refine box_event ?hg (N := 1) ?hd (cs := #[.int .i64 a0_0, .int .i64 a0_1, .int .i64 a0_2, .int .i64 a0_3, .string a0_4, .string a0_5]) (t := 26) ?hr ?_; (case hd => rfl); (case hg => rfl); (case hr => first | (go_simp; done) | (go_simp; rfl)); intro gb294 hg w14 hbox hb; have BK294 := Aside0.mk (hbox); have GW294 := Aside0.mk ((by rw [hg]; exact (below_size (bl HB.out)) : w.heap.size ≤ gb294)); have GE294 := GW294; replace HB := Aside0.mk (below_step (bl HB.out) hb); clear hb hbox hg; obtain ⟨hcz15_0, hcz15_1, hcz15_2, hcz15_3, hcz15_4, hcz15_5⟩ := Go.Proofs.YtaojbcplmdjfnaaDoorW.PrintWords.c6 BK294.out; obtain ⟨hfz15_0, hfz15_1, hfz15_2, hfz15_3, hfz15_4, hfz15_5⟩ := f6 BK294.out))
       repeat (go_quiet (first | ((with_reducible refine gate_dst (N := 1) rfl ?_); refine box_event ?hg (N := 1) ?hd (cs := #[.int .i64 a0_0, .int .i64 a0_1, .int .i64 a0_2, .int .i64 a0_3, .string a0_4, .string a0_5]) (t := 26) ?hr ?_; (case hd => rfl); (case hg => rfl); (case hr => first | (go_simp; done) | (go_simp; rfl)); intro gb294 hg w14 hbox hb; have BK294 := Aside0.mk (hbox); have GW294 := Aside0.mk ((by rw [hg]; exact (below_size (bl HB.out)) : w.heap.size ≤ gb294)); have GE294 := GW294; replace HB := Aside0.mk (below_step (bl HB.out) hb); clear hb hbox hg; obtain ⟨hcz15_0, hcz15_1, hcz15_2, hcz15_3, hcz15_4, hcz15_5⟩ := Go.Proofs.YtaojbcplmdjfnaaDoorW.PrintWords.c6 BK294.out; obtain ⟨hfz15_0, hfz15_1, hfz15_2, hfz15_3, hfz15_4, hfz15_5⟩ := f6 BK294.out)); try go_wp2_with (first | ((with_reducible refine gate_dst (N := 1) rfl ?_); refine box_event ?hg (N := 1) ?hd (cs := #[.int .i64 a0_0, .int .i64 a0_1, .int .i64 a0_2, .int .i64 a0_3, .string a0_4, .string a0_5]) (t := 26) ?hr ?_; (case hd => rfl); (case hg => rfl); (case hr => first | (go_simp; done) | (go_simp; rfl)); intro gb294 hg w14 hbox hb; have BK294 := Aside0.mk (hbox); have GW294 := Aside0.mk ((by rw [hg]; exact (below_size (bl HB.out)) : w.heap.size ≤ gb294)); have GE294 := GW294; replace HB := Aside0.mk (below_step (bl HB.out) hb); clear hb hbox hg; obtain ⟨hcz15_0, hcz15_1, hcz15_2, hcz15_3, hcz15_4, hcz15_5⟩ := Go.Proofs.YtaojbcplmdjfnaaDoorW.PrintWords.c6 BK294.out; obtain ⟨hfz15_0, hfz15_1, hfz15_2, hfz15_3, hfz15_4, hfz15_5⟩ := f6 BK294.out)))
       go_ret2
       exact ⟨by first | rfl | (simp [errW_none, errW_some] <;> rfl) | (simp only [← hji5, ← hji9]; first | rfl | (simp [errW_none, errW_some] <;> rfl)) | (simp [*, errW_none, errW_some] <;> rfl), by repeat (first | (with_reducible first | exact HB.out | apply below_alloc | apply pw_below_drewN | apply below_drew1 | refine below_set ?_ GE294.out) | exact HB.out)⟩
      ·rw [if_neg c11] at H
       exact absurd H (by simp)
     ·rw [if_neg c10] at H
      exact absurd H (by simp)
    ·rw [if_neg c8] at H
     exact absurd H (by simp)
   ·rw [if_neg c7] at H
    exact absurd H (by simp)
  ·rw [if_neg c6] at H
   exact absurd H (by simp)
def galleyref05_Valid.j0 : Nat → Bool → Int → Int → Int → Int → ByteArray → ByteArray → Int → Int → Int → Int → Option (Bool)
 | 0, _, _, _, _, _, _, _, _, _, _, _ => none
 | k + 1, x36, x296000, x296001, x296002, x296003, x296004, x296005, x297000, x297001, x297002, x297003 => if x36 = true then (some false) else (if x297000 ≤ 6 then ((galleyref05_all.f x296000 x296001 x296002 x296003 x296004 x296005).bind fun bt297 => (if bt297.2 = true then (if bt297.1.size ≤ 9223372036854775807 then ((galleyref05_Sizes.f k (bytesOf bt297.1)).bind fun bt302 => (some (bt302.1 == x297000 && (bt302.2.1 == x297001 && (bt302.2.2.1 == x297002 && (bt302.2.2.2 == x297003)))))) else (none)) else (some false))) else (if x297001 < 0 then (some false) else (if x297001 > x297000 then (some false) else (if x297002 < x297001 then (some false) else (if x297002 > (wrap64 (2 * x297001)) then (some false) else (if (wrap64 (x297000 - (wrap64 (4 * (wrap64 (x297002 - x297001)))))) ≥ (wrap64 (x297001 - (wrap64 (x297002 - x297001)))) then (if (wrap64 (x297000 - (wrap64 (4 * (wrap64 (x297002 - x297001)))))) ≤ (wrap64 (3 * (wrap64 (x297001 - (wrap64 (x297002 - x297001)))))) then (if x297003 ≥ 0 then (some (decide (x297003 ≤ x297001))) else (some false)) else (some false)) else (some false)))))))
def galleyref05_Valid.f (k : Nat) (a0_0 : Int) (a0_1 : Int) (a0_2 : Int) (a0_3 : Int) (a0_4 : ByteArray) (a0_5 : ByteArray) : Option (Bool) := if a0_0 < 0 then (galleyref05_Valid.j0 k true a0_0 a0_1 a0_2 a0_3 a0_4 a0_5 a0_0 a0_1 a0_2 a0_3) else (if a0_0 > 268435456 then (galleyref05_Valid.j0 k true a0_0 a0_1 a0_2 a0_3 a0_4 a0_5 a0_0 a0_1 a0_2 a0_3) else (if (a0_4.size : Int) = (mn 3 a0_0) then (galleyref05_Valid.j0 k ((a0_5.size : Int) != (mn 3 a0_0)) a0_0 a0_1 a0_2 a0_3 a0_4 a0_5 a0_0 a0_1 a0_2 a0_3) else (galleyref05_Valid.j0 k true a0_0 a0_1 a0_2 a0_3 a0_4 a0_5 a0_0 a0_1 a0_2 a0_3)))
def galleyref05_Valid.T6 : Bool × List (List Nat × List Nat) := (true, [([], []), ([0], [0]), ([1], [1]), ([2, 1], [1, 2]), ([3, 1, 1], [1, 3]), ([1], [1]), ([4, 5, 1], [1, 4, 5]), ([1, 6], [1, 6]), ([7, 4, 0, 1, 2, 3, 4, 5, 6, 7], [7])])
def galleyref05_Valid.B6 : List Nat := [0, 1, 3, 7, 15, 3, 63, 127, 255]
theorem galleyref05_Valid.tab6 : rtab .any (opsOf Tryd.f16 6) = galleyref05_Valid.T6 := by kernel_rfl
theorem galleyref05_Valid.bits6 : waitsOk galleyref05_Valid.T6.2 galleyref05_Valid.B6 = true := by kernel_rfl
set_option maxHeartbeats 8000000 in
set_option maxRecDepth 100000 in
theorem galleyref05_Valid.calls (k : Nat) (a0_0 : Int) (a0_1 : Int) (a0_2 : Int) (a0_3 : Int) (a0_4 : ByteArray) (a0_5 : ByteArray) (r : Bool) (w : World) (h : galleyref05_Valid.f k a0_0 a0_1 a0_2 a0_3 a0_4 a0_5 = some r) :
  Calls Tryd.prog 16 #[.agg #[.int .i64 a0_0, .int .i64 a0_1, .int .i64 a0_2, .int .i64 a0_3, .string a0_4, .string a0_5]] w fun e w' => e = .returned (.bool r) ∧ Below w.heap.size w w' := by
 have hu26 := Tryd.underlying26
 have hu24 := Tryd.underlying24
 have HB := Aside0.mk (Below.refl w.heap.size w)
 have H : (if a0_0 < 0 then (galleyref05_Valid.j0 k true a0_0 a0_1 a0_2 a0_3 a0_4 a0_5 a0_0 a0_1 a0_2 a0_3) else (if a0_0 > 268435456 then (galleyref05_Valid.j0 k true a0_0 a0_1 a0_2 a0_3 a0_4 a0_5 a0_0 a0_1 a0_2 a0_3) else (if (a0_4.size : Int) = (mn 3 a0_0) then (galleyref05_Valid.j0 k ((a0_5.size : Int) != (mn 3 a0_0)) a0_0 a0_1 a0_2 a0_3 a0_4 a0_5 a0_0 a0_1 a0_2 a0_3) else (galleyref05_Valid.j0 k true a0_0 a0_1 a0_2 a0_3 a0_4 a0_5 a0_0 a0_1 a0_2 a0_3)))) = some r := h
 clear h; have HC2 := Aside0.mk H; clear H
 go_enter Tryd.func16, Tryd.ntmps16
 go_upto_region 2 with (first | ((with_reducible refine gate_dst (N := 1) rfl ?_); (try (refine gate_guard (by rfl) ?_; dsimp only)); refine box_event ?hg (N := 1) ?hd (cs := #[.int .i64 a0_0, .int .i64 a0_1, .int .i64 a0_2, .int .i64 a0_3, .string a0_4, .string a0_5]) (t := 26) ?hr ?_; (case hd => rfl); (case hg => rfl); (case hr => first | (go_simp; done) | (go_simp; rfl)); intro gb295 hg w3 hbox hb; have BK295 := Aside0.mk (hbox); have GW295 := Aside0.mk ((by rw [hg]; exact (below_size (bl HB.out)) : w.heap.size ≤ gb295)); have GE295 := GW295; replace HB := Aside0.mk (below_step (bl HB.out) hb); clear hb hbox hg; obtain ⟨hcz4_0, hcz4_1, hcz4_2, hcz4_3, hcz4_4, hcz4_5⟩ := c6 BK295.out; obtain ⟨hfz4_0, hfz4_1, hfz4_2, hfz4_3, hfz4_4, hfz4_5⟩ := f6 BK295.out) | ((with_reducible refine gate_dst (N := 3) rfl ?_); (try (refine gate_guard (by rfl) ?_; dsimp only)); refine box_event ?hg (N := 3) ?hd (cs := #[.int .i64 0, .int .i64 0, .int .i64 0, .int .i64 0]) (t := 24) ?hr ?_; (case hd => rfl); (case hg => rfl); (case hr => first | (go_simp; done) | (go_simp; rfl)); intro gb296 hg w5 hbox hb; have BK296 := Aside0.mk (hbox); have GW296 := Aside0.mk ((by rw [hg]; exact (below_size (by repeat (first | (with_reducible first | exact HB.out | apply below_alloc | apply pw_below_drewN | apply below_drew1 | refine below_set ?_ GE295.out) | exact HB.out))) : w.heap.size ≤ gb296)); have GE296 := GW296; replace HB := Aside0.mk (below_step (by repeat (first | (with_reducible first | exact HB.out | apply below_alloc | apply pw_below_drewN | apply below_drew1 | refine below_set ?_ GE295.out) | exact HB.out)) hb); obtain ⟨NB295_296, NB296_295⟩ := nbp hg (pl BK295.out); replace BK295 := Aside0.mk (blk_below (pl BK295.out) hb); clear hb hbox hg; have hnb6 := NB296_295.out; have hnc6 := NB295_296.out; obtain ⟨hcz7_0, hcz7_1, hcz7_2, hcz7_3⟩ := c4 BK296.out; obtain ⟨hfz7_0, hfz7_1, hfz7_2, hfz7_3⟩ := f4 BK296.out))
 (try simp only [Act.put, List.setIfInBounds_toArray, List.set_cons_zero, List.set_cons_succ])
 go_cut [36] (fun v36 wc => ∃ (kq : Nat) (x36_1 : Bool), v36 = .bool x36_1 ∧ Aside0 (galleyref05_Valid.j0 kq x36_1 a0_0 a0_1 a0_2 a0_3 a0_4 a0_5 a0_0 a0_1 a0_2 a0_3 = some r) ∧ Aside0 (kq ≤ k) ∧ Aside0 (wc.heap[gb295]? = some (.cells #[.int .i64 a0_0, .int .i64 a0_1, .int .i64 a0_2, .int .i64 a0_3, .string a0_4, .string a0_5] 26 (0, 0))) ∧ Aside0 (wc.heap[gb296]? = some (.cells #[.int .i64 a0_0, .int .i64 a0_1, .int .i64 a0_2, .int .i64 a0_3] 24 (0, 0))) ∧ Aside0 (Below w.heap.size w wc))
 case first =>
  have H := HC2.out; clear HC2
  by_cases c8 : a0_0 < 0
  ·rw [if_pos c8] at H
   have c8b0 : decide (a0_0 < 0) = true := decide_eq_true c8
   clear c8
   (first | rw [c8b0] | (simp only [i64_w, i32_w]; rw [c8b0]) | skip)
   have H' := Aside0.mk H; clear H; have hnb9 := NB296_295.out; have hnc9 := NB295_296.out; obtain ⟨hcz10_0, hcz10_1, hcz10_2, hcz10_3⟩ := c4 BK296.out; obtain ⟨hfz10_0, hfz10_1, hfz10_2, hfz10_3⟩ := f4 BK296.out
   go_wp2
   go_meet
   case rel => exact ⟨_, (true), (by first | rfl | (simp; done) | (simp [*]; done)), H', ⟨by first | omega | exact Nat.le_refl _⟩, ⟨by refine pl ?_; refine blk_far ?_ NB295_296.out _; refine pl ?_; refine blk_far ?_ NB295_296.out _; refine pl ?_; refine blk_far ?_ NB295_296.out _; refine pl ?_; refine blk_far ?_ NB295_296.out _; refine pl ?_; exact BK295.out⟩, ⟨by refine pl ?_; refine blk_put (cs := #[.int .i64 a0_0, .int .i64 a0_1, .int .i64 a0_2, .int .i64 0]) ?_ 3 _ rfl; refine pl ?_; refine blk_put (cs := #[.int .i64 a0_0, .int .i64 a0_1, .int .i64 0, .int .i64 0]) ?_ 2 _ rfl; refine pl ?_; refine blk_put (cs := #[.int .i64 a0_0, .int .i64 0, .int .i64 0, .int .i64 0]) ?_ 1 _ rfl; refine pl ?_; refine blk_put (cs := #[.int .i64 0, .int .i64 0, .int .i64 0, .int .i64 0]) ?_ 0 _ rfl; refine pl ?_; exact BK296.out⟩, ⟨by repeat (first | (with_reducible first | exact HB.out | apply below_alloc | apply pw_below_drewN | apply below_drew1 | refine below_set ?_ GE295.out | refine below_set ?_ GE296.out) | exact HB.out)⟩⟩
  ·rw [if_neg c8] at H
   have c8b0 : decide (a0_0 < 0) = false := decide_eq_false c8
   clear c8
   (first | rw [c8b0] | (simp only [i64_w, i32_w]; rw [c8b0]) | skip)
   by_cases c11 : a0_0 > 268435456
   ·rw [if_pos c11] at H
    have c11b0 : decide (268435456 < a0_0) = true := decide_eq_true c11
    clear c11; have H' := Aside0.mk H; clear H; have hnb12 := NB296_295.out; have hnc12 := NB295_296.out; obtain ⟨hcz13_0, hcz13_1, hcz13_2, hcz13_3⟩ := c4 BK296.out; obtain ⟨hfz13_0, hfz13_1, hfz13_2, hfz13_3⟩ := f4 BK296.out
    go_wp2
    go_meet
    case rel => exact ⟨_, (true), (by first | rfl | (simp; done) | (simp [*]; done)), H', ⟨by first | omega | exact Nat.le_refl _⟩, ⟨by refine pl ?_; refine blk_far ?_ NB295_296.out _; refine pl ?_; refine blk_far ?_ NB295_296.out _; refine pl ?_; refine blk_far ?_ NB295_296.out _; refine pl ?_; refine blk_far ?_ NB295_296.out _; refine pl ?_; exact BK295.out⟩, ⟨by refine pl ?_; refine blk_put (cs := #[.int .i64 a0_0, .int .i64 a0_1, .int .i64 a0_2, .int .i64 0]) ?_ 3 _ rfl; refine pl ?_; refine blk_put (cs := #[.int .i64 a0_0, .int .i64 a0_1, .int .i64 0, .int .i64 0]) ?_ 2 _ rfl; refine pl ?_; refine blk_put (cs := #[.int .i64 a0_0, .int .i64 0, .int .i64 0, .int .i64 0]) ?_ 1 _ rfl; refine pl ?_; refine blk_put (cs := #[.int .i64 0, .int .i64 0, .int .i64 0, .int .i64 0]) ?_ 0 _ rfl; refine pl ?_; exact BK296.out⟩, ⟨by repeat (first | (with_reducible first | exact HB.out | apply below_alloc | apply pw_below_drewN | apply below_drew1 | refine below_set ?_ GE295.out | refine below_set ?_ GE296.out) | exact HB.out)⟩⟩
   ·rw [if_neg c11] at H
    have c11b0 : decide (268435456 < a0_0) = false := decide_eq_false c11
    clear c11
    obtain ⟨ji14, hji14⟩ : ∃ j_ : Int, (mn 3 a0_0) = j_ := ⟨_, rfl⟩
    replace H : (if (a0_4.size : Int) = (ji14) then (galleyref05_Valid.j0 k ((a0_5.size : Int) != (ji14)) a0_0 a0_1 a0_2 a0_3 a0_4 a0_5 a0_0 a0_1 a0_2 a0_3) else (galleyref05_Valid.j0 k true a0_0 a0_1 a0_2 a0_3 a0_4 a0_5 a0_0 a0_1 a0_2 a0_3)) = some r := by first | (rw [hji14] at H; exact H) | (simp only [hji14] at H ⊢; exact H)
    (try (have hji14h : ji14 ≤ 3 := by (rw [← hji14]; unfold mn; (repeat' split) <;> omega)))
    (try (have hji14g : ji14 ≤ 64 := by omega))
    have hji14_ : (if a0_0 < 3 then a0_0 else 3) = ji14 := hji14
    by_cases c15 : (a0_4.size : Int) = (ji14)
    ·rw [if_pos c15] at H
     have c15b0 : ((a0_4.size : Int) == (ji14)) = true := beq_iff_eq.mpr c15
     have c15b1 : ((a0_4.size : Int) != (ji14)) = false := bne_eq_false_iff_eq.mpr c15
     clear c15; have H' := Aside0.mk H; clear H; have hnb17 := NB296_295.out; have hnc17 := NB295_296.out; obtain ⟨hcz18_0, hcz18_1, hcz18_2, hcz18_3⟩ := c4 BK296.out; obtain ⟨hfz18_0, hfz18_1, hfz18_2, hfz18_3⟩ := f4 BK296.out; obtain ⟨hcz19_0, hcz19_1, hcz19_2, hcz19_3, hcz19_4, hcz19_5⟩ := c6 BK295.out; obtain ⟨hfz19_0, hfz19_1, hfz19_2, hfz19_3, hfz19_4, hfz19_5⟩ := f6 BK295.out
     go_wp2
     go_meet
     case rel => exact ⟨_, (((a0_5.size : Int) != (ji14))), (by first | rfl | (simp; done) | (simp only [← hji14] <;> (first | rfl | simp)) | (simp [*]; done)), H', ⟨by first | omega | exact Nat.le_refl _⟩, ⟨by refine pl ?_; refine blk_far ?_ NB295_296.out _; refine pl ?_; refine blk_far ?_ NB295_296.out _; refine pl ?_; refine blk_far ?_ NB295_296.out _; refine pl ?_; refine blk_far ?_ NB295_296.out _; refine pl ?_; exact BK295.out⟩, ⟨by refine pl ?_; refine blk_put (cs := #[.int .i64 a0_0, .int .i64 a0_1, .int .i64 a0_2, .int .i64 0]) ?_ 3 _ rfl; refine pl ?_; refine blk_put (cs := #[.int .i64 a0_0, .int .i64 a0_1, .int .i64 0, .int .i64 0]) ?_ 2 _ rfl; refine pl ?_; refine blk_put (cs := #[.int .i64 a0_0, .int .i64 0, .int .i64 0, .int .i64 0]) ?_ 1 _ rfl; refine pl ?_; refine blk_put (cs := #[.int .i64 0, .int .i64 0, .int .i64 0, .int .i64 0]) ?_ 0 _ rfl; refine pl ?_; exact BK296.out⟩, ⟨by repeat (first | (with_reducible first | exact HB.out | apply below_alloc | apply pw_below_drewN | apply below_drew1 | refine below_set ?_ GE295.out | refine below_set ?_ GE296.out) | exact HB.out)⟩⟩
    ·rw [if_neg c15] at H
     have c15b0 : ((a0_4.size : Int) == (ji14)) = false := beq_eq_false_iff_ne.mpr c15
     have c15b1 : ((a0_4.size : Int) != (ji14)) = true := bne_iff_ne.mpr c15
     have H' := Aside0.mk H; clear H; have hnb20 := NB296_295.out; have hnc20 := NB295_296.out; obtain ⟨hcz21_0, hcz21_1, hcz21_2, hcz21_3⟩ := c4 BK296.out; obtain ⟨hfz21_0, hfz21_1, hfz21_2, hfz21_3⟩ := f4 BK296.out; obtain ⟨hcz22_0, hcz22_1, hcz22_2, hcz22_3, hcz22_4, hcz22_5⟩ := c6 BK295.out; obtain ⟨hfz22_0, hfz22_1, hfz22_2, hfz22_3, hfz22_4, hfz22_5⟩ := f6 BK295.out
     go_wp2
     go_meet
     case rel => exact ⟨_, (true), (by first | rfl | (simp; done) | (simp [*]; done)), H', ⟨by first | omega | exact Nat.le_refl _⟩, ⟨by refine pl ?_; refine blk_far ?_ NB295_296.out _; refine pl ?_; refine blk_far ?_ NB295_296.out _; refine pl ?_; refine blk_far ?_ NB295_296.out _; refine pl ?_; refine blk_far ?_ NB295_296.out _; refine pl ?_; exact BK295.out⟩, ⟨by refine pl ?_; refine blk_put (cs := #[.int .i64 a0_0, .int .i64 a0_1, .int .i64 a0_2, .int .i64 0]) ?_ 3 _ rfl; refine pl ?_; refine blk_put (cs := #[.int .i64 a0_0, .int .i64 a0_1, .int .i64 0, .int .i64 0]) ?_ 2 _ rfl; refine pl ?_; refine blk_put (cs := #[.int .i64 a0_0, .int .i64 0, .int .i64 0, .int .i64 0]) ?_ 1 _ rfl; refine pl ?_; refine blk_put (cs := #[.int .i64 0, .int .i64 0, .int .i64 0, .int .i64 0]) ?_ 0 _ rfl; refine pl ?_; exact BK296.out⟩, ⟨by repeat (first | (with_reducible first | exact HB.out | apply below_alloc | apply pw_below_drewN | apply below_drew1 | refine below_set ?_ GE295.out | refine below_set ?_ GE296.out) | exact HB.out)⟩⟩
 case rest =>
  clear HC2; (try clear c1); (try clear c2); (try clear p2); (try clear c6); (try clear c8); (try clear c8b0); (try clear c9); (try clear c11); (try clear c11b0); (try clear c12); (try clear c15); (try clear c15b0); (try clear c15b1); (try clear c16); (try clear c16b0); (try clear c17); (try clear c20); (try clear hcz10_0); (try clear hcz10_1); (try clear hcz10_2); (try clear hcz10_3); (try clear hcz13_0); (try clear hcz13_1); (try clear hcz13_2); (try clear hcz13_3); (try clear hcz18_0); (try clear hcz18_1); (try clear hcz18_2); (try clear hcz18_3); (try clear hcz19_0); (try clear hcz19_1); (try clear hcz19_2); (try clear hcz19_3); (try clear hcz19_4); (try clear hcz19_5); (try clear hcz21_0); (try clear hcz21_1); (try clear hcz21_2); (try clear hcz21_3); (try clear hcz22_0); (try clear hcz22_1); (try clear hcz22_2); (try clear hcz22_3); (try clear hcz22_4); (try clear hcz22_5); (try clear hcz4_0); (try clear hcz4_1); (try clear hcz4_2); (try clear hcz4_3); (try clear hcz4_4); (try clear hcz4_5); (try clear hcz7_0); (try clear hcz7_1); (try clear hcz7_2); (try clear hcz7_3); (try clear hfz10_0); (try clear hfz10_1); (try clear hfz10_2); (try clear hfz10_3); (try clear hfz13_0); (try clear hfz13_1); (try clear hfz13_2); (try clear hfz13_3); (try clear hfz18_0); (try clear hfz18_1); (try clear hfz18_2); (try clear hfz18_3); (try clear hfz19_0); (try clear hfz19_1); (try clear hfz19_2); (try clear hfz19_3); (try clear hfz19_4); (try clear hfz19_5); (try clear hfz21_0); (try clear hfz21_1); (try clear hfz21_2); (try clear hfz21_3); (try clear hfz22_0); (try clear hfz22_1); (try clear hfz22_2); (try clear hfz22_3); (try clear hfz22_4); (try clear hfz22_5); (try clear hfz4_0); (try clear hfz4_1); (try clear hfz4_2); (try clear hfz4_3); (try clear hfz4_4); (try clear hfz4_5); (try clear hfz7_0); (try clear hfz7_1); (try clear hfz7_2); (try clear hfz7_3)
  obtain ⟨kq, x36_1, rfl, HA, HJ1, BK295, BK296, HB⟩ := hcut
  cases kq with
  | zero => exact absurd HA.out (by simp [galleyref05_Valid.j0])
  | succ kj1 =>
   have H := HA.out; clear HA
   simp only [galleyref05_Valid.j0] at H
   by_cases c23 : x36_1 = true
   ·subst c23
    have H1 : (some false) = some r := by rw [if_pos rfl] at H; exact H
    clear H; have H := H1; clear H1
    obtain rfl := Option.some.inj H
    go_wp2
    go_ret
    exact ⟨by first | rfl | (simp [errW_none, errW_some] <;> rfl) | (simp [*, errW_none, errW_some] <;> rfl), by repeat (first | (with_reducible first | exact HB.out | apply below_alloc | apply pw_below_drewN | apply below_drew1 | refine below_set ?_ GE295.out | refine below_set ?_ GE296.out) | exact HB.out)⟩
   ·replace c23 := Bool.eq_false_iff.mpr c23
    subst c23
    have H1 : (if a0_0 ≤ 6 then ((galleyref05_all.f a0_0 a0_1 a0_2 a0_3 a0_4 a0_5).bind fun bt297 => (if bt297.2 = true then (if bt297.1.size ≤ 9223372036854775807 then ((galleyref05_Sizes.f kj1 (bytesOf bt297.1)).bind fun bt302 => (some (bt302.1 == a0_0 && (bt302.2.1 == a0_1 && (bt302.2.2.1 == a0_2 && (bt302.2.2.2 == a0_3)))))) else (none)) else (some false))) else (if a0_1 < 0 then (some false) else (if a0_1 > a0_0 then (some false) else (if a0_2 < a0_1 then (some false) else (if a0_2 > (wrap64 (2 * a0_1)) then (some false) else (if (wrap64 (a0_0 - (wrap64 (4 * (wrap64 (a0_2 - a0_1)))))) ≥ (wrap64 (a0_1 - (wrap64 (a0_2 - a0_1)))) then (if (wrap64 (a0_0 - (wrap64 (4 * (wrap64 (a0_2 - a0_1)))))) ≤ (wrap64 (3 * (wrap64 (a0_1 - (wrap64 (a0_2 - a0_1)))))) then (if a0_3 ≥ 0 then (some (decide (a0_3 ≤ a0_1))) else (some false)) else (some false)) else (some false))))))) = some r := by rw [if_neg (show ¬ (false = true) by decide)] at H; exact H
    clear H; have H := H1; clear H1
    by_cases c24 : a0_0 ≤ 6
    ·rw [if_pos c24] at H
     have c24b0 : decide (a0_0 ≤ 6) = true := decide_eq_true c24
     clear c24
     replace H := Option.bind_eq_some_iff.mp H
     obtain ⟨⟨t297, t298⟩, A250, H⟩ := H
     have A25 := Aside0.mk A250; clear A250
     by_cases c26 : t298 = true
     ·subst c26
      have H1 : (if t297.size ≤ 9223372036854775807 then ((galleyref05_Sizes.f kj1 (bytesOf t297)).bind fun bt302 => (some (bt302.1 == a0_0 && (bt302.2.1 == a0_1 && (bt302.2.2.1 == a0_2 && (bt302.2.2.2 == a0_3)))))) else (none)) = some r := by rw [if_pos rfl] at H; exact H
      clear H; have H := H1; clear H1
      by_cases c27 : t297.size ≤ 9223372036854775807
      ·rw [if_pos c27] at H
       have c27b0 := eq_true c27
       have c27b1 : decide (t297.size ≤ 9223372036854775807) = true := decide_eq_true c27
       try have c27b2 : (9223372036854775807 < t297.size) = False := eq_false (Nat.not_lt.2 c27)
       clear c27
       obtain ⟨y299, hy299⟩ : ∃ y_ : List Int, y_ = (bytesOf t297) := ⟨_, rfl⟩
       replace H : ((galleyref05_Sizes.f kj1 y299).bind fun bt302 => (some (bt302.1 == a0_0 && (bt302.2.1 == a0_1 && (bt302.2.2.1 == a0_2 && (bt302.2.2.2 == a0_3)))))) = some r := by first | (rw [hy299]; with_reducible exact H) | (have H2_ := (Option.bind_some _ _).symm.trans H; rw [hy299]; with_reducible exact H2_) | (have H2_ := (Option.bind_some _ _).symm.trans H; with_reducible exact H2_) | with_reducible exact H | (rw [hy299]; exact H) | exact H
       have Ny299 := Aside0.mk hy299; clear hy299
       replace H := Option.bind_eq_some_iff.mp H
       obtain ⟨⟨t302, t303, t304, t305⟩, A280, H⟩ := H
       have A28 := Aside0.mk A280; clear A280
       obtain rfl := Option.some.inj H
       have hnb29 := NB296_295.out; have hnc29 := NB295_296.out; obtain ⟨hcz30_0, hcz30_1, hcz30_2, hcz30_3⟩ := c4 BK296.out; obtain ⟨hfz30_0, hfz30_1, hfz30_2, hfz30_3⟩ := f4 BK296.out; obtain ⟨hcz31_0, hcz31_1, hcz31_2, hcz31_3, hcz31_4, hcz31_5⟩ := c6 BK295.out; obtain ⟨hfz31_0, hfz31_1, hfz31_2, hfz31_3, hfz31_4, hfz31_5⟩ := f6 BK295.out
       try go_wp2_with (first | ((with_reducible refine gate_callee (f := 31) rfl ?_); refine goesL_ (some 42) rfl rfl Tryd.func31 (by kernel_rfl) rfl #[.agg #[.int .i64 a0_0, .int .i64 a0_1, .int .i64 a0_2, .int .i64 a0_3, .string a0_4, .string a0_5]] rfl (by (try simp only [List.map_toArray, List.map_cons, List.map_nil]); first | done | rfl | (simp only [List.length_drop, List.length_take]; rfl)) ?_; (with_reducible refine (galleyref05_all.calls a0_0 a0_1 a0_2 a0_3 a0_4 a0_5 t297 true _ A25.out).mono ?_); rintro e w32 ⟨rfl, hb⟩; refine ⟨_, rfl, ?_⟩; replace BK295 := Aside0.mk (blk_below (pl BK295.out) hb); replace BK296 := Aside0.mk (blk_below (pl BK296.out) hb); replace HB := Aside0.mk (below_step (by repeat (first | (with_reducible first | exact HB.out | apply below_alloc | apply pw_below_drewN | apply below_drew1 | refine below_set ?_ GE295.out | refine below_set ?_ GE296.out) | exact HB.out)) hb); (try clear hb); (try clear hb2); (try clear hk); (try clear hi)))
       replace BK295 := Aside0.mk (blk_drew BK295.out); replace BK296 := Aside0.mk (blk_drew BK296.out); replace HB := Aside0.mk (below_drew1 HB.out)
       refine start_ (n := 9) (S := fun w' => w'.cell? ⟨gb296, 0, none⟩ = some (.int .i64 a0_0) ∧ w'.cell? ⟨gb296, 1, none⟩ = some (.int .i64 a0_1) ∧ w'.cell? ⟨gb296, 2, none⟩ = some (.int .i64 a0_2) ∧ w'.cell? ⟨gb296, 3, none⟩ = some (.int .i64 a0_3)) (ds := []) #[false, false, false, false, false, false, false, false, false] (by kernel_rfl) rfl rfl ⟨(blk_cell BK296.out 0).trans rfl, (blk_cell BK296.out 1).trans rfl, (blk_cell BK296.out 2).trans rfl, (blk_cell BK296.out 3).trans rfl⟩ (fun hHeld => ?_); refine with_tabW galleyref05_Valid.tab6 galleyref05_Valid.bits6 (fun HT_ HW_ => ?_)
       generalize w32.drew = w33 at BK295 BK296 HB hHeld ⊢
       refine pure_ (i := 0) (N := some 45) (v := ?_) (a' := ?_) #[true, false, false, false, false, false, false, false, false] rfl rfl (any_of HT_.out (by kernel_rfl)) (fun _ _ _ h => h) (Or.inl ⟨by rfl, ?_⟩) ?_ ?_
       rotate_left
       ·intro w'
        go_simp
        with_reducible rfl
       rotate_left
       ·simp only [Act.put, List.setIfInBounds_toArray, List.set_cons_zero, List.set_cons_succ, i64_w, i32_w]
        rfl
       refine pure_ (i := 1) (N := some 46) (v := ?_) (a' := ?_) #[true, true, false, false, false, false, false, false, false] rfl rfl (any_of HT_.out (by kernel_rfl)) (fun _ _ _ h => h) (Or.inl ⟨by rfl, ?_⟩) ?_ ?_
       rotate_left
       ·intro w'
        go_simp
        with_reducible rfl
       rotate_left
       ·simp only [Act.put, List.setIfInBounds_toArray, List.set_cons_zero, List.set_cons_succ, i64_w, i32_w]
        rfl
       refine pure_ (i := 2) (N := some 47) (v := ?_) (a' := ?_) #[true, true, true, false, false, false, false, false, false] rfl rfl (any_of HT_.out (by kernel_rfl)) (fun _ _ _ h => h) (Or.inl ⟨by rfl, ?_⟩) ?_ ?_
       rotate_left
       ·intro w'
        go_simp
        with_reducible rfl
       rotate_left
       ·simp only [Act.put, List.setIfInBounds_toArray, List.set_cons_zero, List.set_cons_succ, i64_w, i32_w]
        rfl
       refine take_ (i := 5) (N := some 50) (v := ?_) (a' := ?_) #[true, true, true, false, false, true, false, false, false] rfl rfl (take_ofW HT_.out HW_.out (by kernel_rfl)) (fun _ _ _ h => h) (Or.inl ⟨by rfl, ?_⟩) hHeld ?_ ?_
       rotate_left
       ·rintro w' ⟨s0, s1, s2, s3⟩
        go_simp
        with_reducible rfl
       rotate_left
       ·simp only [Act.put, List.setIfInBounds_toArray, List.set_cons_zero, List.set_cons_succ, i64_w, i32_w]
        rfl
       refine one_ (i := 3) (N := some 48) #[true, true, true, true, false, true, false, false, false] rfl rfl (one_of HT_.out (by kernel_rfl)) (by decide) (fun K hK => ?_)
       refine Kd.V_bytes_step _ 5 ?hg (N := 48) ?hd (s := t297) (ok := fun k_ => w33.heap.size ≤ k_) rfl ?hx Tryd.underlying9 Tryd.underlying29 Tryd.underlying5 (Nat.le_refl _) (Below.refl _ _) (Nat.le_refl _) (of_decide_eq_true (by first | (with_reducible assumption) | assumption)) ?_; (case hd => rfl); (case hg => rfl); (case hx => first | rfl | (go_simp; done) | (go_simp; rfl))
       intro v300 w34 ho35 hb hg_ hnew_
       clear hg_ hnew_
       (first | rw [← Ny299.out] at ho35 | (simp only [Int.reduceToNat] at ho35; rw [← Ny299.out] at ho35))
       have HO301 := Aside0.mk (Kd.V_lower (Kd.V_mono (ok' := fun k_ => k_ ≠ gb295 ∧ k_ ≠ gb296) ho35 (fun k_ hk_ => ⟨(Kd.freshB (g := gb295) (o := .cells #[.int .i64 a0_0, .int .i64 a0_1, .int .i64 a0_2, .int .i64 a0_3, .string a0_4, .string a0_5] 26 (0, 0)) (pl BK295.out) k_ hk_), (Kd.freshB (g := gb296) (o := .cells #[.int .i64 a0_0, .int .i64 a0_1, .int .i64 a0_2, .int .i64 a0_3] 24 (0, 0)) (pl BK296.out) k_ hk_)⟩)) (below_size (by repeat (first | (with_reducible first | exact HB.out | apply below_alloc | apply pw_below_drewN | apply below_drew1 | refine below_set ?_ GE295.out | refine below_set ?_ GE296.out) | exact HB.out)))); replace BK295 := Aside0.mk (blk_below (pl BK295.out) hb); replace BK296 := Aside0.mk (blk_below (pl BK296.out) hb); replace HB := Aside0.mk (below_step (by repeat (first | (with_reducible first | exact HB.out | apply below_alloc | apply pw_below_drewN | apply below_drew1 | refine below_set ?_ GE295.out | refine below_set ?_ GE296.out) | exact HB.out)) hb); clear hb ho35
       obtain ⟨Ao36, co36, eo36⟩ := Kd.V_slice HO301.out
       (first | subst eo36 | (injection eo36 with f1_ f2_ f3_; have f4_ := f1_.symm; have f5_ := f3_.symm; clear f1_ f2_ f3_; subst f4_; subst f5_))
       refine hK.out _ _ ⟨(blk_cell BK296.out 0).trans rfl, (blk_cell BK296.out 1).trans rfl, (blk_cell BK296.out 2).trans rfl, (blk_cell BK296.out 3).trans rfl⟩ (fun hHeld => ?_)
       clear hK K
       refine norm_ (a' := ?_) ?_ ?_
       rotate_left
       ·show Act.put _ (some 48) _ = _
        simp only [Act.put, List.setIfInBounds_toArray, List.set_cons_zero, List.set_cons_succ, i64_w, i32_w]
        rfl
       refine one_ (i := 4) (N := some 49) #[true, true, true, true, true, true, false, false, false] rfl rfl (one_of HT_.out (by kernel_rfl)) (by decide) (fun K hK => ?_)
       refine goes_ Tryd.func15 (by kernel_rfl) rfl #[.slice Ao36 y299.length co36] (by rfl) rfl rfl (by (try simp only [List.map_toArray, List.map_cons, List.map_nil]); first | done | rfl | (simp only [List.length_drop, List.length_take]; rfl)) ?_
       with_reducible refine (galleyref05_Sizes.calls kj1 _ _ y299 t302 t303 t304 t305 _ ?side1 ?side2 A28.out).mono ?_
       (case side1 => repeat (first | exact (Kd.V_reads' HO301.out).2.2 | (with_reducible refine Kd.C_alloc ?_ _) | (with_reducible refine Kd.C_drewN ?_ _) | (with_reducible refine Kd.C_drew ?_)))
       (case side2 => exact (Kd.V_reads' HO301.out).2.1)
       rintro e w37 ⟨rfl, hb⟩
       refine ⟨_, rfl, ?_⟩
       replace HO301 := Aside0.mk (Kd.V_below (by (with_reducible repeat (first | apply Kd.V_alloc | apply Kd.V_drewN | apply Kd.V_drew)); exact HO301.out) hb); replace BK295 := Aside0.mk (blk_below (pl BK295.out) hb); replace BK296 := Aside0.mk (blk_below (pl BK296.out) hb); replace HB := Aside0.mk (below_step (by repeat (first | (with_reducible first | exact HB.out | apply below_alloc | apply pw_below_drewN | apply below_drew1 | refine below_set ?_ GE295.out | refine below_set ?_ GE296.out) | exact HB.out)) hb)
       (try clear hb)
       (try clear hb2)
       (try clear hk)
       (try clear hi)
       refine hK.out _ _ ⟨(blk_cell BK296.out 0).trans rfl, (blk_cell BK296.out 1).trans rfl, (blk_cell BK296.out 2).trans rfl, (blk_cell BK296.out 3).trans rfl⟩ (fun hHeld => ?_)
       clear hK K
       refine norm_ (a' := ?_) ?_ ?_
       rotate_left
       ·show Act.put _ (some 49) _ = _
        simp only [Act.put, List.setIfInBounds_toArray, List.set_cons_zero, List.set_cons_succ, i64_w, i32_w]
        rfl
       refine pure_ (i := 6) (N := some 51) (v := ?_) (a' := ?_) #[true, true, true, true, true, true, true, false, false] rfl rfl (any_of HT_.out (by kernel_rfl)) (fun _ _ _ h => h) (Or.inl ⟨by rfl, ?_⟩) ?_ ?_
       rotate_left
       ·intro w'
        go_simp
        with_reducible rfl
       rotate_left
       ·simp only [Act.put, List.setIfInBounds_toArray, List.set_cons_zero, List.set_cons_succ, i64_w, i32_w]
        rfl
       refine pure_ (i := 7) (N := some 52) (v := ?_) (a' := ?_) #[true, true, true, true, true, true, true, true, false] rfl rfl (any_of HT_.out (by kernel_rfl)) (fun _ _ _ h => h) (Or.inl ⟨by rfl, ?_⟩) ?_ ?_
       rotate_left
       ·intro w'
        go_simp
        with_reducible rfl
       rotate_left
       ·simp only [Act.put, List.setIfInBounds_toArray, List.set_cons_zero, List.set_cons_succ, i64_w, i32_w]
        rfl
       refine pure_ (i := 8) (N := some 2) (v := ?_) (a' := ?_) #[true, true, true, true, true, true, true, true, true] rfl rfl (any_of HT_.out (by kernel_rfl)) (fun _ _ _ h => h) (Or.inl ⟨by rfl, ?_⟩) ?_ ?_
       rotate_left
       ·intro w'
        go_simp
        with_reducible rfl
       rotate_left
       ·simp only [Act.put, List.setIfInBounds_toArray, List.set_cons_zero, List.set_cons_succ, i64_w, i32_w]
        rfl
       refine done_ (done_of HT_.out (by kernel_rfl)) ?_
       try go_wp2
       go_ret
       exact ⟨by first | rfl | (simp [errW_none, errW_some] <;> rfl) | (simp [*, errW_none, errW_some] <;> rfl), by repeat (first | (with_reducible first | exact HB.out | apply below_alloc | apply pw_below_drewN | apply below_drew1 | refine below_set ?_ GE295.out | refine below_set ?_ GE296.out) | exact HB.out)⟩
      ·rw [if_neg c27] at H
       exact absurd H (by simp)
     ·replace c26 := Bool.eq_false_iff.mpr c26
      subst c26
      have H1 : (some false) = some r := by rw [if_neg (show ¬ (false = true) by decide)] at H; exact H
      clear H; have H := H1; clear H1
      obtain rfl := Option.some.inj H
      have hnb38 := NB296_295.out; have hnc38 := NB295_296.out; obtain ⟨hcz39_0, hcz39_1, hcz39_2, hcz39_3⟩ := c4 BK296.out; obtain ⟨hfz39_0, hfz39_1, hfz39_2, hfz39_3⟩ := f4 BK296.out; obtain ⟨hcz40_0, hcz40_1, hcz40_2, hcz40_3, hcz40_4, hcz40_5⟩ := c6 BK295.out; obtain ⟨hfz40_0, hfz40_1, hfz40_2, hfz40_3, hfz40_4, hfz40_5⟩ := f6 BK295.out
      try go_wp2_with (first | ((with_reducible refine gate_callee (f := 31) rfl ?_); refine goesL_ (some 42) rfl rfl Tryd.func31 (by kernel_rfl) rfl #[.agg #[.int .i64 a0_0, .int .i64 a0_1, .int .i64 a0_2, .int .i64 a0_3, .string a0_4, .string a0_5]] rfl (by (try simp only [List.map_toArray, List.map_cons, List.map_nil]); first | done | rfl | (simp only [List.length_drop, List.length_take]; rfl)) ?_; (with_reducible refine (galleyref05_all.calls a0_0 a0_1 a0_2 a0_3 a0_4 a0_5 t297 false _ A25.out).mono ?_); rintro e w41 ⟨rfl, hb⟩; refine ⟨_, rfl, ?_⟩; replace BK295 := Aside0.mk (blk_below (pl BK295.out) hb); replace BK296 := Aside0.mk (blk_below (pl BK296.out) hb); replace HB := Aside0.mk (below_step (by repeat (first | (with_reducible first | exact HB.out | apply below_alloc | apply pw_below_drewN | apply below_drew1 | refine below_set ?_ GE295.out | refine below_set ?_ GE296.out) | exact HB.out)) hb); (try clear hb); (try clear hb2); (try clear hk); (try clear hi)))
      replace BK295 := Aside0.mk (blk_drew BK295.out); replace BK296 := Aside0.mk (blk_drew BK296.out); replace HB := Aside0.mk (below_drew1 HB.out)
      refine start_ (n := 9) (S := fun w' => True) (ds := []) #[false, false, false, false, false, false, false, false, false] (by kernel_rfl) rfl rfl trivial (fun hHeld => ?_); refine with_tabW galleyref05_Valid.tab6 galleyref05_Valid.bits6 (fun HT_ HW_ => ?_)
      generalize w41.drew = w42 at BK295 BK296 HB hHeld ⊢
      refine pure_ (i := 0) (N := some 45) (v := ?_) (a' := ?_) #[true, false, false, false, false, false, false, false, false] rfl rfl (any_of HT_.out (by kernel_rfl)) (fun _ _ _ h => h) (Or.inl ⟨by rfl, ?_⟩) ?_ ?_
      rotate_left
      ·intro w'
       go_simp
       with_reducible rfl
      rotate_left
      ·simp only [Act.put, List.setIfInBounds_toArray, List.set_cons_zero, List.set_cons_succ, i64_w, i32_w]
       rfl
      refine pure_ (i := 1) (N := some 46) (v := ?_) (a' := ?_) #[true, true, false, false, false, false, false, false, false] rfl rfl (any_of HT_.out (by kernel_rfl)) (fun _ _ _ h => h) (Or.inl ⟨by rfl, ?_⟩) ?_ ?_
      rotate_left
      ·intro w'
       go_simp
       with_reducible rfl
      rotate_left
      ·simp only [Act.put, List.setIfInBounds_toArray, List.set_cons_zero, List.set_cons_succ, i64_w, i32_w]
       rfl
      refine pure_ (i := 2) (N := some 47) (v := undef) (a' := ?_) #[true, true, true, false, false, false, false, false, false] rfl rfl (any_of HT_.out (by kernel_rfl)) (fun _ _ _ h => h) (Or.inr ⟨by rfl, rfl⟩) ?_ ?_
      rotate_left
      ·simp only [Act.put, List.setIfInBounds_toArray, List.set_cons_zero, List.set_cons_succ, i64_w, i32_w]
       rfl
      refine pure_ (i := 3) (N := some 48) (v := undef) (a' := ?_) #[true, true, true, true, false, false, false, false, false] rfl rfl (any_of HT_.out (by kernel_rfl)) (fun _ _ _ h => h) (Or.inr ⟨by rfl, rfl⟩) ?_ ?_
      rotate_left
      ·simp only [Act.put, List.setIfInBounds_toArray, List.set_cons_zero, List.set_cons_succ, i64_w, i32_w]
       rfl
      refine pure_ (i := 4) (N := some 49) (v := undef) (a' := ?_) #[true, true, true, true, true, false, false, false, false] rfl rfl (any_of HT_.out (by kernel_rfl)) (fun _ _ _ h => h) (Or.inr ⟨by rfl, rfl⟩) ?_ ?_
      rotate_left
      ·simp only [Act.put, List.setIfInBounds_toArray, List.set_cons_zero, List.set_cons_succ, i64_w, i32_w]
       rfl
      refine pure_ (i := 5) (N := some 50) (v := undef) (a' := ?_) #[true, true, true, true, true, true, false, false, false] rfl rfl (any_of HT_.out (by kernel_rfl)) (fun _ _ _ h => h) (Or.inr ⟨by rfl, rfl⟩) ?_ ?_
      rotate_left
      ·simp only [Act.put, List.setIfInBounds_toArray, List.set_cons_zero, List.set_cons_succ, i64_w, i32_w]
       rfl
      refine pure_ (i := 6) (N := some 51) (v := undef) (a' := ?_) #[true, true, true, true, true, true, true, false, false] rfl rfl (any_of HT_.out (by kernel_rfl)) (fun _ _ _ h => h) (Or.inr ⟨by rfl, rfl⟩) ?_ ?_
      rotate_left
      ·simp only [Act.put, List.setIfInBounds_toArray, List.set_cons_zero, List.set_cons_succ, i64_w, i32_w]
       rfl
      refine pure_ (i := 7) (N := some 52) (v := ?_) (a' := ?_) #[true, true, true, true, true, true, true, true, false] rfl rfl (any_of HT_.out (by kernel_rfl)) (fun _ _ _ h => h) (Or.inl ⟨by rfl, ?_⟩) ?_ ?_
      rotate_left
      ·intro w'
       go_simp
       with_reducible rfl
      rotate_left
      ·simp only [Act.put, List.setIfInBounds_toArray, List.set_cons_zero, List.set_cons_succ, i64_w, i32_w]
       rfl
      refine pure_ (i := 8) (N := some 2) (v := ?_) (a' := ?_) #[true, true, true, true, true, true, true, true, true] rfl rfl (any_of HT_.out (by kernel_rfl)) (fun _ _ _ h => h) (Or.inl ⟨by rfl, ?_⟩) ?_ ?_
      rotate_left
      ·intro w'
       go_simp
       with_reducible rfl
      rotate_left
      ·simp only [Act.put, List.setIfInBounds_toArray, List.set_cons_zero, List.set_cons_succ, i64_w, i32_w]
       rfl
      refine done_ (done_of HT_.out (by kernel_rfl)) ?_
      try go_wp2
      go_ret
      exact ⟨by first | rfl | (simp [errW_none, errW_some] <;> rfl) | (simp [*, errW_none, errW_some] <;> rfl), by repeat (first | (with_reducible first | exact HB.out | apply below_alloc | apply pw_below_drewN | apply below_drew1 | refine below_set ?_ GE295.out | refine below_set ?_ GE296.out) | exact HB.out)⟩
    ·rw [if_neg c24] at H
     have c24b0 : decide (a0_0 ≤ 6) = false := decide_eq_false c24
     clear c24
     by_cases c43 : a0_1 < 0
     ·rw [if_pos c43] at H
      have c43b0 : decide (a0_1 < 0) = true := decide_eq_true c43
      clear c43
      obtain rfl := Option.some.inj H
      have hnb44 := NB296_295.out; have hnc44 := NB295_296.out; obtain ⟨hcz45_0, hcz45_1, hcz45_2, hcz45_3⟩ := c4 BK296.out; obtain ⟨hfz45_0, hfz45_1, hfz45_2, hfz45_3⟩ := f4 BK296.out
      go_wp2
      go_ret
      exact ⟨by first | rfl | (simp [errW_none, errW_some] <;> rfl) | (simp [*, errW_none, errW_some] <;> rfl), by repeat (first | (with_reducible first | exact HB.out | apply below_alloc | apply pw_below_drewN | apply below_drew1 | refine below_set ?_ GE295.out | refine below_set ?_ GE296.out) | exact HB.out)⟩
     ·rw [if_neg c43] at H
      have c43b0 : decide (a0_1 < 0) = false := decide_eq_false c43
      clear c43
      by_cases c46 : a0_1 > a0_0
      ·rw [if_pos c46] at H
       have c46b0 : decide (a0_0 < a0_1) = true := decide_eq_true c46
       clear c46
       obtain rfl := Option.some.inj H
       have hnb47 := NB296_295.out; have hnc47 := NB295_296.out; obtain ⟨hcz48_0, hcz48_1, hcz48_2, hcz48_3⟩ := c4 BK296.out; obtain ⟨hfz48_0, hfz48_1, hfz48_2, hfz48_3⟩ := f4 BK296.out
       go_wp2
       go_ret
       exact ⟨by first | rfl | (simp [errW_none, errW_some] <;> rfl) | (simp [*, errW_none, errW_some] <;> rfl), by repeat (first | (with_reducible first | exact HB.out | apply below_alloc | apply pw_below_drewN | apply below_drew1 | refine below_set ?_ GE295.out | refine below_set ?_ GE296.out) | exact HB.out)⟩
      ·rw [if_neg c46] at H
       have c46b0 : decide (a0_0 < a0_1) = false := decide_eq_false c46
       clear c46
       by_cases c49 : a0_2 < a0_1
       ·rw [if_pos c49] at H
        have c49b0 : decide (a0_2 < a0_1) = true := decide_eq_true c49
        clear c49
        obtain rfl := Option.some.inj H
        have hnb50 := NB296_295.out; have hnc50 := NB295_296.out; obtain ⟨hcz51_0, hcz51_1, hcz51_2, hcz51_3⟩ := c4 BK296.out; obtain ⟨hfz51_0, hfz51_1, hfz51_2, hfz51_3⟩ := f4 BK296.out
        go_wp2
        go_ret
        exact ⟨by first | rfl | (simp [errW_none, errW_some] <;> rfl) | (simp [*, errW_none, errW_some] <;> rfl), by repeat (first | (with_reducible first | exact HB.out | apply below_alloc | apply pw_below_drewN | apply below_drew1 | refine below_set ?_ GE295.out | refine below_set ?_ GE296.out) | exact HB.out)⟩
       ·rw [if_neg c49] at H
        have c49b0 : decide (a0_2 < a0_1) = false := decide_eq_false c49
        clear c49
        by_cases c52 : a0_2 > (wrap64 (2 * a0_1))
        ·rw [if_pos c52] at H
         have c52b0 : decide ((wrap64 (2 * a0_1)) < a0_2) = true := decide_eq_true c52
         clear c52
         obtain rfl := Option.some.inj H
         have hnb53 := NB296_295.out; have hnc53 := NB295_296.out; obtain ⟨hcz54_0, hcz54_1, hcz54_2, hcz54_3⟩ := c4 BK296.out; obtain ⟨hfz54_0, hfz54_1, hfz54_2, hfz54_3⟩ := f4 BK296.out
         go_wp2
         go_ret
         exact ⟨by first | rfl | (simp [errW_none, errW_some] <;> rfl) | (simp [*, errW_none, errW_some] <;> rfl), by repeat (first | (with_reducible first | exact HB.out | apply below_alloc | apply pw_below_drewN | apply below_drew1 | refine below_set ?_ GE295.out | refine below_set ?_ GE296.out) | exact HB.out)⟩
        ·rw [if_neg c52] at H
         have c52b0 : decide ((wrap64 (2 * a0_1)) < a0_2) = false := decide_eq_false c52
         clear c52
         by_cases c55 : (wrap64 (a0_0 - (wrap64 (4 * (wrap64 (a0_2 - a0_1)))))) ≥ (wrap64 (a0_1 - (wrap64 (a0_2 - a0_1))))
         ·rw [if_pos c55] at H
          have c55b0 : decide ((wrap64 (a0_1 - (wrap64 (a0_2 - a0_1)))) ≤ (wrap64 (a0_0 - (wrap64 (4 * (wrap64 (a0_2 - a0_1))))))) = true := decide_eq_true c55
          clear c55
          by_cases c56 : (wrap64 (a0_0 - (wrap64 (4 * (wrap64 (a0_2 - a0_1)))))) ≤ (wrap64 (3 * (wrap64 (a0_1 - (wrap64 (a0_2 - a0_1))))))
          ·rw [if_pos c56] at H
           have c56b0 : decide ((wrap64 (a0_0 - (wrap64 (4 * (wrap64 (a0_2 - a0_1)))))) ≤ (wrap64 (3 * (wrap64 (a0_1 - (wrap64 (a0_2 - a0_1))))))) = true := decide_eq_true c56
           clear c56
           by_cases c57 : a0_3 ≥ 0
           ·rw [if_pos c57] at H
            have c57b0 : decide (0 ≤ a0_3) = true := decide_eq_true c57
            clear c57
            obtain rfl := Option.some.inj H
            have hnb58 := NB296_295.out; have hnc58 := NB295_296.out; obtain ⟨hcz59_0, hcz59_1, hcz59_2, hcz59_3⟩ := c4 BK296.out; obtain ⟨hfz59_0, hfz59_1, hfz59_2, hfz59_3⟩ := f4 BK296.out
            go_wp2
            go_ret
            exact ⟨by first | rfl | (simp [errW_none, errW_some] <;> rfl) | (simp [*, errW_none, errW_some] <;> rfl), by repeat (first | (with_reducible first | exact HB.out | apply below_alloc | apply pw_below_drewN | apply below_drew1 | refine below_set ?_ GE295.out | refine below_set ?_ GE296.out) | exact HB.out)⟩
           ·rw [if_neg c57] at H
            have c57b0 : decide (0 ≤ a0_3) = false := decide_eq_false c57
            clear c57
            obtain rfl := Option.some.inj H
            have hnb60 := NB296_295.out; have hnc60 := NB295_296.out; obtain ⟨hcz61_0, hcz61_1, hcz61_2, hcz61_3⟩ := c4 BK296.out; obtain ⟨hfz61_0, hfz61_1, hfz61_2, hfz61_3⟩ := f4 BK296.out
            go_wp2
            go_ret
            exact ⟨by first | rfl | (simp [errW_none, errW_some] <;> rfl) | (simp [*, errW_none, errW_some] <;> rfl), by repeat (first | (with_reducible first | exact HB.out | apply below_alloc | apply pw_below_drewN | apply below_drew1 | refine below_set ?_ GE295.out | refine below_set ?_ GE296.out) | exact HB.out)⟩
          ·rw [if_neg c56] at H
           have c56b0 : decide ((wrap64 (a0_0 - (wrap64 (4 * (wrap64 (a0_2 - a0_1)))))) ≤ (wrap64 (3 * (wrap64 (a0_1 - (wrap64 (a0_2 - a0_1))))))) = false := decide_eq_false c56
           clear c56
           obtain rfl := Option.some.inj H
           have hnb62 := NB296_295.out; have hnc62 := NB295_296.out; obtain ⟨hcz63_0, hcz63_1, hcz63_2, hcz63_3⟩ := c4 BK296.out; obtain ⟨hfz63_0, hfz63_1, hfz63_2, hfz63_3⟩ := f4 BK296.out
           go_wp2
           go_ret
           exact ⟨by first | rfl | (simp [errW_none, errW_some] <;> rfl) | (simp [*, errW_none, errW_some] <;> rfl), by repeat (first | (with_reducible first | exact HB.out | apply below_alloc | apply pw_below_drewN | apply below_drew1 | refine below_set ?_ GE295.out | refine below_set ?_ GE296.out) | exact HB.out)⟩
         ·rw [if_neg c55] at H
          have c55b0 : decide ((wrap64 (a0_1 - (wrap64 (a0_2 - a0_1)))) ≤ (wrap64 (a0_0 - (wrap64 (4 * (wrap64 (a0_2 - a0_1))))))) = false := decide_eq_false c55
          clear c55
          obtain rfl := Option.some.inj H
          have hnb64 := NB296_295.out; have hnc64 := NB295_296.out; obtain ⟨hcz65_0, hcz65_1, hcz65_2, hcz65_3⟩ := c4 BK296.out; obtain ⟨hfz65_0, hfz65_1, hfz65_2, hfz65_3⟩ := f4 BK296.out
          go_wp2
          go_ret
          exact ⟨by first | rfl | (simp [errW_none, errW_some] <;> rfl) | (simp [*, errW_none, errW_some] <;> rfl), by repeat (first | (with_reducible first | exact HB.out | apply below_alloc | apply pw_below_drewN | apply below_drew1 | refine below_set ?_ GE295.out | refine below_set ?_ GE296.out) | exact HB.out)⟩
end Go.Proofs.YtaojbcplmdjfnaaDoor.Pr
