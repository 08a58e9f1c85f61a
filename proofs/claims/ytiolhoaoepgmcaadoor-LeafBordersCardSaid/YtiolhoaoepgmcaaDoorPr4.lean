-- Laid by wip/drive/drive.py of this proof's repo (a driver over the kit's print): not typed by hand, not trusted: Lean checks it.
import Derived.Test.YtiolhoaoepgmcaaDoorPr0
import Derived.Test.YtiolhoaoepgmcaaDoorPr3
namespace Go.Proofs.YtiolhoaoepgmcaaDoor.Pr
open Go.RowKit Go.Proofs.YtiolhoaoepgmcaaDoorW.PrintWords Go.Proofs.YtiolhoaoepgmcaaDoorW.PrintLast Go.Proofs.YtiolhoaoepgmcaaDoorW.PrintMore
attribute [local go_sem] max2_int min2_int max_two min_two max_three min_three max_four min_four   -- for this text's walks alone
set_option linter.unusedVariables false
set_option linter.unusedSimpArgs false

/-! ### galleyref02_Long: function 31 -/
mutual
def galleyref02_Long.j0 : Nat → Int → Int → Int → Int → Bool → Option (Int)
  | 0, _, _, _, _, _ => none
  | k + 1, x5, x6, x7, x8, x31 => if x31 = true then (some 2) else ((galleyref02_in.f x7 128 191).bind fun t143 => (if t143 = true then (if x5 = 224 then ((galleyref02_in.f x6 160 191).bind fun t144 => (if t144 = true then (some 3) else ((galleyref02_in.f x5 225 236).bind fun t145 => (if t145 = true then ((galleyref02_in.f x6 128 191).bind fun t146 => (if t146 = true then (some 3) else (if x5 = 237 then ((galleyref02_in.f x6 128 159).bind fun t147 => (if t147 = true then (some 3) else ((galleyref02_in.f x5 238 239).bind fun t148 => (if t148 = true then ((galleyref02_in.f x6 128 191).bind fun t149 => (if t149 = true then (some 3) else (galleyref02_Long.j1 k x5 x6 x7 x8))) else (galleyref02_Long.j1 k x5 x6 x7 x8))))) else ((galleyref02_in.f x5 238 239).bind fun t150 => (if t150 = true then ((galleyref02_in.f x6 128 191).bind fun t151 => (if t151 = true then (some 3) else (galleyref02_Long.j1 k x5 x6 x7 x8))) else (galleyref02_Long.j1 k x5 x6 x7 x8)))))) else (if x5 = 237 then ((galleyref02_in.f x6 128 159).bind fun t152 => (if t152 = true then (some 3) else ((galleyref02_in.f x5 238 239).bind fun t153 => (if t153 = true then ((galleyref02_in.f x6 128 191).bind fun t154 => (if t154 = true then (some 3) else (galleyref02_Long.j1 k x5 x6 x7 x8))) else (galleyref02_Long.j1 k x5 x6 x7 x8))))) else ((galleyref02_in.f x5 238 239).bind fun t155 => (if t155 = true then ((galleyref02_in.f x6 128 191).bind fun t156 => (if t156 = true then (some 3) else (galleyref02_Long.j1 k x5 x6 x7 x8))) else (galleyref02_Long.j1 k x5 x6 x7 x8)))))))) else ((galleyref02_in.f x5 225 236).bind fun t157 => (if t157 = true then ((galleyref02_in.f x6 128 191).bind fun t158 => (if t158 = true then (some 3) else (if x5 = 237 then ((galleyref02_in.f x6 128 159).bind fun t159 => (if t159 = true then (some 3) else ((galleyref02_in.f x5 238 239).bind fun t160 => (if t160 = true then ((galleyref02_in.f x6 128 191).bind fun t161 => (if t161 = true then (some 3) else (galleyref02_Long.j1 k x5 x6 x7 x8))) else (galleyref02_Long.j1 k x5 x6 x7 x8))))) else ((galleyref02_in.f x5 238 239).bind fun t162 => (if t162 = true then ((galleyref02_in.f x6 128 191).bind fun t163 => (if t163 = true then (some 3) else (galleyref02_Long.j1 k x5 x6 x7 x8))) else (galleyref02_Long.j1 k x5 x6 x7 x8)))))) else (if x5 = 237 then ((galleyref02_in.f x6 128 159).bind fun t164 => (if t164 = true then (some 3) else ((galleyref02_in.f x5 238 239).bind fun t165 => (if t165 = true then ((galleyref02_in.f x6 128 191).bind fun t166 => (if t166 = true then (some 3) else (galleyref02_Long.j1 k x5 x6 x7 x8))) else (galleyref02_Long.j1 k x5 x6 x7 x8))))) else ((galleyref02_in.f x5 238 239).bind fun t167 => (if t167 = true then ((galleyref02_in.f x6 128 191).bind fun t168 => (if t168 = true then (some 3) else (galleyref02_Long.j1 k x5 x6 x7 x8))) else (galleyref02_Long.j1 k x5 x6 x7 x8))))))) else (galleyref02_Long.j1 k x5 x6 x7 x8)))
def galleyref02_Long.j1 : Nat → Int → Int → Int → Int → Option (Int)
  | 0, _, _, _, _ => none
  | k + 1, x5, x6, x7, x8 => (galleyref02_in.f x7 128 191).bind fun t169 => (if t169 = true then ((galleyref02_in.f x8 128 191).bind fun t170 => (galleyref02_Long.j2 k x5 x6 t170)) else (galleyref02_Long.j2 k x5 x6 false))
def galleyref02_Long.j2 : Nat → Int → Int → Bool → Option (Int)
  | 0, _, _, _ => none
  | k + 1, x5, x6, x69 => if x69 = true then (if x5 = 240 then ((galleyref02_in.f x6 144 191).bind fun t171 => (if t171 = true then (some 4) else ((galleyref02_in.f x5 241 243).bind fun t172 => (if t172 = true then ((galleyref02_in.f x6 128 191).bind fun t173 => (if t173 = true then (some 4) else (if x5 = 244 then ((galleyref02_in.f x6 128 143).bind fun t174 => (if t174 = true then (some 4) else (some 0))) else (some 0)))) else (if x5 = 244 then ((galleyref02_in.f x6 128 143).bind fun t175 => (if t175 = true then (some 4) else (some 0))) else (some 0)))))) else ((galleyref02_in.f x5 241 243).bind fun t176 => (if t176 = true then ((galleyref02_in.f x6 128 191).bind fun t177 => (if t177 = true then (some 4) else (if x5 = 244 then ((galleyref02_in.f x6 128 143).bind fun t178 => (if t178 = true then (some 4) else (some 0))) else (some 0)))) else (if x5 = 244 then ((galleyref02_in.f x6 128 143).bind fun t179 => (if t179 = true then (some 4) else (some 0))) else (some 0))))) else (some 0)
end
def galleyref02_Long.f (k : Nat) (l0 : List Int) (a1 : Int) : Option (Int) := (galleyref02_at.f l0 a1).bind fun t136 => ((galleyref02_at.f l0 (wrap64 (a1 + 1))).bind fun t137 => ((galleyref02_at.f l0 (wrap64 (a1 + 2))).bind fun t138 => ((galleyref02_at.f l0 (wrap64 (a1 + 3))).bind fun t139 => ((galleyref02_in.f t136 0 127).bind fun t140 => (if t140 = true then (some 1) else ((galleyref02_in.f t136 194 223).bind fun t141 => (if t141 = true then ((galleyref02_in.f t137 128 191).bind fun t142 => (galleyref02_Long.j0 k t136 t137 t138 t139 t142)) else (galleyref02_Long.j0 k t136 t137 t138 t139 false))))))))
theorem galleyref02_Long.mono_l : ∀ k, (∀ y0 y1 y2 y3 y4, LeO (galleyref02_Long.j0 k y0 y1 y2 y3 y4) (galleyref02_Long.j0 (k + 1) y0 y1 y2 y3 y4)) ∧ (∀ y0 y1 y2 y3, LeO (galleyref02_Long.j1 k y0 y1 y2 y3) (galleyref02_Long.j1 (k + 1) y0 y1 y2 y3)) ∧ (∀ y0 y1 y2, LeO (galleyref02_Long.j2 k y0 y1 y2) (galleyref02_Long.j2 (k + 1) y0 y1 y2))
  | 0 => ⟨fun _ _ _ _ _ r h => by simp [galleyref02_Long.j0] at h, fun _ _ _ _ r h => by simp [galleyref02_Long.j1] at h, fun _ _ _ r h => by simp [galleyref02_Long.j2] at h⟩
  | k + 1 => by
    obtain ⟨ih0, ih1, ih2⟩ := galleyref02_Long.mono_l k
    refine ⟨?_, ?_, ?_⟩
    · intro y0 y1 y2 y3 y4
      unfold galleyref02_Long.j0
      repeat' first
      | (with_reducible exact ih0 _ _ _ _ _)
      | (with_reducible exact ih1 _ _ _ _)
      | (with_reducible exact ih2 _ _ _)
      | (with_reducible exact LeO.refl _)
      | (with_reducible exact LeO.none _)
      | (with_reducible refine LeO.ite ?_ ?_)
      | (with_reducible refine LeO.bind ?_ (fun _ => ?_))
      | exact ih0 _ _ _ _ _
      | exact ih1 _ _ _ _
      | exact ih2 _ _ _
      | exact LeO.none _
      | refine LeO.ite ?_ ?_
      | refine LeO.bind ?_ (fun _ => ?_)
    · intro y0 y1 y2 y3
      unfold galleyref02_Long.j1
      repeat' first
      | (with_reducible exact ih0 _ _ _ _ _)
      | (with_reducible exact ih1 _ _ _ _)
      | (with_reducible exact ih2 _ _ _)
      | (with_reducible exact LeO.refl _)
      | (with_reducible exact LeO.none _)
      | (with_reducible refine LeO.ite ?_ ?_)
      | (with_reducible refine LeO.bind ?_ (fun _ => ?_))
      | exact ih0 _ _ _ _ _
      | exact ih1 _ _ _ _
      | exact ih2 _ _ _
      | exact LeO.none _
      | refine LeO.ite ?_ ?_
      | refine LeO.bind ?_ (fun _ => ?_)
    · intro y0 y1 y2
      unfold galleyref02_Long.j2
      repeat' first
      | (with_reducible exact ih0 _ _ _ _ _)
      | (with_reducible exact ih1 _ _ _ _)
      | (with_reducible exact ih2 _ _ _)
      | (with_reducible exact LeO.refl _)
      | (with_reducible exact LeO.none _)
      | (with_reducible refine LeO.ite ?_ ?_)
      | (with_reducible refine LeO.bind ?_ (fun _ => ?_))
      | exact ih0 _ _ _ _ _
      | exact ih1 _ _ _ _
      | exact ih2 _ _ _
      | exact LeO.none _
      | refine LeO.ite ?_ ?_
      | refine LeO.bind ?_ (fun _ => ?_)
theorem galleyref02_Long.mono : ∀ a0 a1 k, LeO (galleyref02_Long.f k a0 a1) (galleyref02_Long.f (k + 1) a0 a1) := by
  intro a0 a1 k
  obtain ⟨ih0, ih1, ih2⟩ := galleyref02_Long.mono_l k
  unfold galleyref02_Long.f
  repeat' first
      | (with_reducible exact ih0 _ _ _ _ _)
      | (with_reducible exact ih1 _ _ _ _)
      | (with_reducible exact ih2 _ _ _)
      | (with_reducible exact LeO.refl _)
      | (with_reducible exact LeO.none _)
      | (with_reducible refine LeO.ite ?_ ?_)
      | (with_reducible refine LeO.bind ?_ (fun _ => ?_))
      | exact ih0 _ _ _ _ _
      | exact ih1 _ _ _ _
      | exact ih2 _ _ _
      | exact LeO.none _
      | refine LeO.ite ?_ ?_
      | refine LeO.bind ?_ (fun _ => ?_)
set_option maxHeartbeats 8000000 in
set_option maxRecDepth 100000 in
theorem galleyref02_Long.calls (k : Nat) (A0 : Option Addr) (c0 : Nat) (l0 : List Int) (a1 : Int) (r : Int) (w : World) (hr0 : Kd.C (Kd.int .u8) w A0 l0.length l0) (hc0 : l0.length ≤ c0) (h : galleyref02_Long.f k l0 a1 = some r) :
    Calls Tryd.prog 31 #[.slice A0 l0.length c0, .int .i64 a1] w fun e w' => e = .returned (.int .i64 r) ∧ Drawn0 w w' := by
  have HR0 := Aside0.mk hr0
  have HC0 := Aside0.mk hc0
  clear hr0 hc0
  have H : ((galleyref02_at.f l0 a1).bind fun t136 => ((galleyref02_at.f l0 (wrap64 (a1 + 1))).bind fun t137 => ((galleyref02_at.f l0 (wrap64 (a1 + 2))).bind fun t138 => ((galleyref02_at.f l0 (wrap64 (a1 + 3))).bind fun t139 => ((galleyref02_in.f t136 0 127).bind fun t140 => (if t140 = true then (some 1) else ((galleyref02_in.f t136 194 223).bind fun t141 => (if t141 = true then ((galleyref02_in.f t137 128 191).bind fun t142 => (galleyref02_Long.j0 k t136 t137 t138 t139 t142)) else (galleyref02_Long.j0 k t136 t137 t138 t139 false))))))))) = some r := h
  clear h
  replace H := Option.bind_eq_some_iff.mp H
  obtain ⟨t136, A30, H⟩ := H
  replace H : ((galleyref02_at.f l0 (wrap64 (a1 + 1))).bind fun t137 => ((galleyref02_at.f l0 (wrap64 (a1 + 2))).bind fun t138 => ((galleyref02_at.f l0 (wrap64 (a1 + 3))).bind fun t139 => ((galleyref02_in.f t136 0 127).bind fun t140 => (if t140 = true then (some 1) else ((galleyref02_in.f t136 194 223).bind fun t141 => (if t141 = true then ((galleyref02_in.f t137 128 191).bind fun t142 => (galleyref02_Long.j0 k t136 t137 t138 t139 t142)) else (galleyref02_Long.j0 k t136 t137 t138 t139 false)))))))) = some r := H
  have A3 := Aside0.mk A30
  clear A30
  replace H := Option.bind_eq_some_iff.mp H
  obtain ⟨t137, A40, H⟩ := H
  replace H : ((galleyref02_at.f l0 (wrap64 (a1 + 2))).bind fun t138 => ((galleyref02_at.f l0 (wrap64 (a1 + 3))).bind fun t139 => ((galleyref02_in.f t136 0 127).bind fun t140 => (if t140 = true then (some 1) else ((galleyref02_in.f t136 194 223).bind fun t141 => (if t141 = true then ((galleyref02_in.f t137 128 191).bind fun t142 => (galleyref02_Long.j0 k t136 t137 t138 t139 t142)) else (galleyref02_Long.j0 k t136 t137 t138 t139 false))))))) = some r := H
  have A4 := Aside0.mk A40
  clear A40
  replace H := Option.bind_eq_some_iff.mp H
  obtain ⟨t138, A50, H⟩ := H
  replace H : ((galleyref02_at.f l0 (wrap64 (a1 + 3))).bind fun t139 => ((galleyref02_in.f t136 0 127).bind fun t140 => (if t140 = true then (some 1) else ((galleyref02_in.f t136 194 223).bind fun t141 => (if t141 = true then ((galleyref02_in.f t137 128 191).bind fun t142 => (galleyref02_Long.j0 k t136 t137 t138 t139 t142)) else (galleyref02_Long.j0 k t136 t137 t138 t139 false)))))) = some r := H
  have A5 := Aside0.mk A50
  clear A50
  replace H := Option.bind_eq_some_iff.mp H
  obtain ⟨t139, A60, H⟩ := H
  replace H : ((galleyref02_in.f t136 0 127).bind fun t140 => (if t140 = true then (some 1) else ((galleyref02_in.f t136 194 223).bind fun t141 => (if t141 = true then ((galleyref02_in.f t137 128 191).bind fun t142 => (galleyref02_Long.j0 k t136 t137 t138 t139 t142)) else (galleyref02_Long.j0 k t136 t137 t138 t139 false))))) = some r := H
  have A6 := Aside0.mk A60
  clear A60
  replace H := Option.bind_eq_some_iff.mp H
  obtain ⟨t140, A70, H⟩ := H
  replace H : (if t140 = true then (some 1) else ((galleyref02_in.f t136 194 223).bind fun t141 => (if t141 = true then ((galleyref02_in.f t137 128 191).bind fun t142 => (galleyref02_Long.j0 k t136 t137 t138 t139 t142)) else (galleyref02_Long.j0 k t136 t137 t138 t139 false)))) = some r := H
  have A7 := Aside0.mk A70
  clear A70
  by_cases c8 : t140 = true
  · subst c8
    have H1 : (some 1) = some r := by rw [if_pos rfl] at H; exact H
    clear H
    have H := H1
    clear H1
    obtain rfl := Option.some.inj H
    go_enter Tryd.func31, Tryd.ntmps31
    go_wp2_with (first | ((with_reducible refine gate_callee (f := 39) rfl ?_); refine goesL_ (some 11) rfl rfl Tryd.func39 (by kernel_rfl) rfl #[.slice A0 l0.length c0, .int .i64 a1] rfl (by (try simp only [List.map_toArray, List.map_cons, List.map_nil]); first | done | rfl | (simp only [List.length_drop, List.length_take]; rfl)) ?_; (with_reducible refine (galleyref02_at.calls _ _ l0 a1 t136 _ ?side1 ?side2 A3.out).mono ?_); (case side1 => repeat (first | exact HR0.out | (with_reducible refine Kd.C_alloc ?_ _) | (with_reducible refine Kd.C_drewN ?_ _) | (with_reducible refine Kd.C_drew ?_))); (case side2 => exact HC0.out); rintro e w' ⟨rfl, ⟨nd, rfl⟩⟩; refine ⟨_, rfl, ?_⟩) | ((with_reducible refine gate_callee (f := 39) rfl ?_); refine goesL_ (some 15) rfl rfl Tryd.func39 (by kernel_rfl) rfl #[.slice A0 l0.length c0, .int .i64 (wrap64 (a1 + 1))] rfl (by (try simp only [List.map_toArray, List.map_cons, List.map_nil]); first | done | rfl | (simp only [List.length_drop, List.length_take]; rfl)) ?_; (with_reducible refine (galleyref02_at.calls _ _ l0 (wrap64 (a1 + 1)) t137 _ ?side1 ?side2 A4.out).mono ?_); (case side1 => repeat (first | exact HR0.out | (with_reducible refine Kd.C_alloc ?_ _) | (with_reducible refine Kd.C_drewN ?_ _) | (with_reducible refine Kd.C_drew ?_))); (case side2 => exact HC0.out); rintro e w' ⟨rfl, ⟨nd, rfl⟩⟩; refine ⟨_, rfl, ?_⟩) | ((with_reducible refine gate_callee (f := 39) rfl ?_); refine goesL_ (some 19) rfl rfl Tryd.func39 (by kernel_rfl) rfl #[.slice A0 l0.length c0, .int .i64 (wrap64 (a1 + 2))] rfl (by (try simp only [List.map_toArray, List.map_cons, List.map_nil]); first | done | rfl | (simp only [List.length_drop, List.length_take]; rfl)) ?_; (with_reducible refine (galleyref02_at.calls _ _ l0 (wrap64 (a1 + 2)) t138 _ ?side1 ?side2 A5.out).mono ?_); (case side1 => repeat (first | exact HR0.out | (with_reducible refine Kd.C_alloc ?_ _) | (with_reducible refine Kd.C_drewN ?_ _) | (with_reducible refine Kd.C_drew ?_))); (case side2 => exact HC0.out); rintro e w' ⟨rfl, ⟨nd, rfl⟩⟩; refine ⟨_, rfl, ?_⟩) | ((with_reducible refine gate_callee (f := 39) rfl ?_); refine goesL_ (some 23) rfl rfl Tryd.func39 (by kernel_rfl) rfl #[.slice A0 l0.length c0, .int .i64 (wrap64 (a1 + 3))] rfl (by (try simp only [List.map_toArray, List.map_cons, List.map_nil]); first | done | rfl | (simp only [List.length_drop, List.length_take]; rfl)) ?_; (with_reducible refine (galleyref02_at.calls _ _ l0 (wrap64 (a1 + 3)) t139 _ ?side1 ?side2 A6.out).mono ?_); (case side1 => repeat (first | exact HR0.out | (with_reducible refine Kd.C_alloc ?_ _) | (with_reducible refine Kd.C_drewN ?_ _) | (with_reducible refine Kd.C_drew ?_))); (case side2 => exact HC0.out); rintro e w' ⟨rfl, ⟨nd, rfl⟩⟩; refine ⟨_, rfl, ?_⟩) | ((with_reducible refine gate_callee (f := 40) rfl ?_); refine goesL_ (some 25) rfl rfl Tryd.func40 (by kernel_rfl) rfl #[.int .i64 t136, .int .i64 0, .int .i64 127] rfl (by (try simp only [List.map_toArray, List.map_cons, List.map_nil]); first | done | rfl | (simp only [List.length_drop, List.length_take]; rfl)) ?_; (with_reducible refine (galleyref02_in.calls t136 0 127 true _ A7.out).mono ?_); rintro e w' ⟨rfl, ⟨nd, rfl⟩⟩; refine ⟨_, rfl, ?_⟩))
    go_ret
    exact ⟨by first | rfl | (simp; done) | (simp [*]; done), by repeat (first | exact Drawn0.refl _ | apply Drawn0.step)⟩
  · replace c8 := Bool.eq_false_iff.mpr c8
    subst c8
    have H1 : ((galleyref02_in.f t136 194 223).bind fun t141 => (if t141 = true then ((galleyref02_in.f t137 128 191).bind fun t142 => (galleyref02_Long.j0 k t136 t137 t138 t139 t142)) else (galleyref02_Long.j0 k t136 t137 t138 t139 false))) = some r := by rw [if_neg (show ¬ (false = true) by decide)] at H; exact H
    clear H
    have H := H1
    clear H1
    have HC9 := Aside0.mk H
    clear H
    go_enter Tryd.func31, Tryd.ntmps31
    go_upto_region 4 with (first | ((with_reducible refine gate_callee (f := 39) rfl ?_); refine goesL_ (some 11) rfl rfl Tryd.func39 (by kernel_rfl) rfl #[.slice A0 l0.length c0, .int .i64 a1] rfl (by (try simp only [List.map_toArray, List.map_cons, List.map_nil]); first | done | rfl | (simp only [List.length_drop, List.length_take]; rfl)) ?_; (with_reducible refine (galleyref02_at.calls _ _ l0 a1 t136 _ ?side1 ?side2 A3.out).mono ?_); (case side1 => repeat (first | exact HR0.out | (with_reducible refine Kd.C_alloc ?_ _) | (with_reducible refine Kd.C_drewN ?_ _) | (with_reducible refine Kd.C_drew ?_))); (case side2 => exact HC0.out); rintro e w' ⟨rfl, ⟨nd, rfl⟩⟩; refine ⟨_, rfl, ?_⟩) | ((with_reducible refine gate_callee (f := 39) rfl ?_); refine goesL_ (some 15) rfl rfl Tryd.func39 (by kernel_rfl) rfl #[.slice A0 l0.length c0, .int .i64 (wrap64 (a1 + 1))] rfl (by (try simp only [List.map_toArray, List.map_cons, List.map_nil]); first | done | rfl | (simp only [List.length_drop, List.length_take]; rfl)) ?_; (with_reducible refine (galleyref02_at.calls _ _ l0 (wrap64 (a1 + 1)) t137 _ ?side1 ?side2 A4.out).mono ?_); (case side1 => repeat (first | exact HR0.out | (with_reducible refine Kd.C_alloc ?_ _) | (with_reducible refine Kd.C_drewN ?_ _) | (with_reducible refine Kd.C_drew ?_))); (case side2 => exact HC0.out); rintro e w' ⟨rfl, ⟨nd, rfl⟩⟩; refine ⟨_, rfl, ?_⟩) | ((with_reducible refine gate_callee (f := 39) rfl ?_); refine goesL_ (some 19) rfl rfl Tryd.func39 (by kernel_rfl) rfl #[.slice A0 l0.length c0, .int .i64 (wrap64 (a1 + 2))] rfl (by (try simp only [List.map_toArray, List.map_cons, List.map_nil]); first | done | rfl | (simp only [List.length_drop, List.length_take]; rfl)) ?_; (with_reducible refine (galleyref02_at.calls _ _ l0 (wrap64 (a1 + 2)) t138 _ ?side1 ?side2 A5.out).mono ?_); (case side1 => repeat (first | exact HR0.out | (with_reducible refine Kd.C_alloc ?_ _) | (with_reducible refine Kd.C_drewN ?_ _) | (with_reducible refine Kd.C_drew ?_))); (case side2 => exact HC0.out); rintro e w' ⟨rfl, ⟨nd, rfl⟩⟩; refine ⟨_, rfl, ?_⟩) | ((with_reducible refine gate_callee (f := 39) rfl ?_); refine goesL_ (some 23) rfl rfl Tryd.func39 (by kernel_rfl) rfl #[.slice A0 l0.length c0, .int .i64 (wrap64 (a1 + 3))] rfl (by (try simp only [List.map_toArray, List.map_cons, List.map_nil]); first | done | rfl | (simp only [List.length_drop, List.length_take]; rfl)) ?_; (with_reducible refine (galleyref02_at.calls _ _ l0 (wrap64 (a1 + 3)) t139 _ ?side1 ?side2 A6.out).mono ?_); (case side1 => repeat (first | exact HR0.out | (with_reducible refine Kd.C_alloc ?_ _) | (with_reducible refine Kd.C_drewN ?_ _) | (with_reducible refine Kd.C_drew ?_))); (case side2 => exact HC0.out); rintro e w' ⟨rfl, ⟨nd, rfl⟩⟩; refine ⟨_, rfl, ?_⟩) | ((with_reducible refine gate_callee (f := 40) rfl ?_); refine goesL_ (some 25) rfl rfl Tryd.func40 (by kernel_rfl) rfl #[.int .i64 t136, .int .i64 0, .int .i64 127] rfl (by (try simp only [List.map_toArray, List.map_cons, List.map_nil]); first | done | rfl | (simp only [List.length_drop, List.length_take]; rfl)) ?_; (with_reducible refine (galleyref02_in.calls t136 0 127 false _ A7.out).mono ?_); rintro e w' ⟨rfl, ⟨nd, rfl⟩⟩; refine ⟨_, rfl, ?_⟩))
    (try simp only [Act.put, List.setIfInBounds_toArray, List.set_cons_zero, List.set_cons_succ])
    go_cut [31] (fun v31 wc => ∃ (kq : Nat) (x31_8 : Bool), v31 = .bool x31_8 ∧ Aside0 (galleyref02_Long.j0 kq t136 t137 t138 t139 x31_8 = some r) ∧ Aside0 (kq ≤ k) ∧ Drawn0 w wc)
    case first =>
      have H := HC9.out
      clear HC9
      replace H := Option.bind_eq_some_iff.mp H
      obtain ⟨t141, A100, H⟩ := H
      replace H : (if t141 = true then ((galleyref02_in.f t137 128 191).bind fun t142 => (galleyref02_Long.j0 k t136 t137 t138 t139 t142)) else (galleyref02_Long.j0 k t136 t137 t138 t139 false)) = some r := H
      have A10 := Aside0.mk A100
      clear A100
      by_cases c11 : t141 = true
      · subst c11
        have H1 : ((galleyref02_in.f t137 128 191).bind fun t142 => (galleyref02_Long.j0 k t136 t137 t138 t139 t142)) = some r := by rw [if_pos rfl] at H; exact H
        clear H
        have H := H1
        clear H1
        replace H := Option.bind_eq_some_iff.mp H
        obtain ⟨t142, A120, H⟩ := H
        replace H : (galleyref02_Long.j0 k t136 t137 t138 t139 t142) = some r := H
        have A12 := Aside0.mk A120
        clear A120
        have H' := Aside0.mk H
        clear H
        go_wp2_with (first | ((with_reducible refine gate_callee (f := 40) rfl ?_); refine goesL_ (some 27) rfl rfl Tryd.func40 (by kernel_rfl) rfl #[.int .i64 t136, .int .i64 194, .int .i64 223] rfl (by (try simp only [List.map_toArray, List.map_cons, List.map_nil]); first | done | rfl | (simp only [List.length_drop, List.length_take]; rfl)) ?_; (with_reducible refine (galleyref02_in.calls t136 194 223 true _ A10.out).mono ?_); rintro e w' ⟨rfl, ⟨nd, rfl⟩⟩; refine ⟨_, rfl, ?_⟩) | (go_at_call 40; (with_reducible refine (galleyref02_in.calls t137 128 191 t142 _ A12.out).mono ?_); rintro e w' ⟨rfl, ⟨nd, rfl⟩⟩))
        go_meet
        case rel => exact ⟨_, (t142), (by first | rfl | (simp; done) | (simp [*]; done)), H', ⟨by first | omega | exact Nat.le_refl _⟩, by repeat (first | exact Drawn0.refl _ | apply Drawn0.step)⟩
      · replace c11 := Bool.eq_false_iff.mpr c11
        subst c11
        have H1 : (galleyref02_Long.j0 k t136 t137 t138 t139 false) = some r := by rw [if_neg (show ¬ (false = true) by decide)] at H; exact H
        clear H
        have H := H1
        clear H1
        have H' := Aside0.mk H
        clear H
        go_wp2_with (first | ((with_reducible refine gate_callee (f := 40) rfl ?_); refine goesL_ (some 27) rfl rfl Tryd.func40 (by kernel_rfl) rfl #[.int .i64 t136, .int .i64 194, .int .i64 223] rfl (by (try simp only [List.map_toArray, List.map_cons, List.map_nil]); first | done | rfl | (simp only [List.length_drop, List.length_take]; rfl)) ?_; (with_reducible refine (galleyref02_in.calls t136 194 223 false _ A10.out).mono ?_); rintro e w' ⟨rfl, ⟨nd, rfl⟩⟩; refine ⟨_, rfl, ?_⟩))
        go_meet
        case rel => exact ⟨_, (false), (by first | rfl | (simp; done) | (simp [*]; done)), H', ⟨by first | omega | exact Nat.le_refl _⟩, by repeat (first | exact Drawn0.refl _ | apply Drawn0.step)⟩
    case rest =>
      clear HC9
      try clear c1
      try clear p2
      try clear c3
      try clear c4
      try clear p6
      try clear c8
      try clear c11
      obtain ⟨kq, x31_8, rfl, HA, HJ8, ⟨mc8, rfl⟩⟩ := hcut
      cases kq with
      | zero => exact absurd HA.out (by simp [galleyref02_Long.j0])
      | succ kj8 =>
        have H := HA.out
        clear HA
        simp only [galleyref02_Long.j0] at H
        by_cases c13 : x31_8 = true
        · subst c13
          have H1 : (some 2) = some r := by rw [if_pos rfl] at H; exact H
          clear H
          have H := H1
          clear H1
          obtain rfl := Option.some.inj H
          go_wp2
          go_ret
          exact ⟨by first | rfl | (simp; done) | (simp [*]; done), by repeat (first | exact Drawn0.refl _ | apply Drawn0.step)⟩
        · replace c13 := Bool.eq_false_iff.mpr c13
          subst c13
          have H1 : ((galleyref02_in.f t138 128 191).bind fun t143 => (if t143 = true then (if t136 = 224 then ((galleyref02_in.f t137 160 191).bind fun t144 => (if t144 = true then (some 3) else ((galleyref02_in.f t136 225 236).bind fun t145 => (if t145 = true then ((galleyref02_in.f t137 128 191).bind fun t146 => (if t146 = true then (some 3) else (if t136 = 237 then ((galleyref02_in.f t137 128 159).bind fun t147 => (if t147 = true then (some 3) else ((galleyref02_in.f t136 238 239).bind fun t148 => (if t148 = true then ((galleyref02_in.f t137 128 191).bind fun t149 => (if t149 = true then (some 3) else (galleyref02_Long.j1 kj8 t136 t137 t138 t139))) else (galleyref02_Long.j1 kj8 t136 t137 t138 t139))))) else ((galleyref02_in.f t136 238 239).bind fun t150 => (if t150 = true then ((galleyref02_in.f t137 128 191).bind fun t151 => (if t151 = true then (some 3) else (galleyref02_Long.j1 kj8 t136 t137 t138 t139))) else (galleyref02_Long.j1 kj8 t136 t137 t138 t139)))))) else (if t136 = 237 then ((galleyref02_in.f t137 128 159).bind fun t152 => (if t152 = true then (some 3) else ((galleyref02_in.f t136 238 239).bind fun t153 => (if t153 = true then ((galleyref02_in.f t137 128 191).bind fun t154 => (if t154 = true then (some 3) else (galleyref02_Long.j1 kj8 t136 t137 t138 t139))) else (galleyref02_Long.j1 kj8 t136 t137 t138 t139))))) else ((galleyref02_in.f t136 238 239).bind fun t155 => (if t155 = true then ((galleyref02_in.f t137 128 191).bind fun t156 => (if t156 = true then (some 3) else (galleyref02_Long.j1 kj8 t136 t137 t138 t139))) else (galleyref02_Long.j1 kj8 t136 t137 t138 t139)))))))) else ((galleyref02_in.f t136 225 236).bind fun t157 => (if t157 = true then ((galleyref02_in.f t137 128 191).bind fun t158 => (if t158 = true then (some 3) else (if t136 = 237 then ((galleyref02_in.f t137 128 159).bind fun t159 => (if t159 = true then (some 3) else ((galleyref02_in.f t136 238 239).bind fun t160 => (if t160 = true then ((galleyref02_in.f t137 128 191).bind fun t161 => (if t161 = true then (some 3) else (galleyref02_Long.j1 kj8 t136 t137 t138 t139))) else (galleyref02_Long.j1 kj8 t136 t137 t138 t139))))) else ((galleyref02_in.f t136 238 239).bind fun t162 => (if t162 = true then ((galleyref02_in.f t137 128 191).bind fun t163 => (if t163 = true then (some 3) else (galleyref02_Long.j1 kj8 t136 t137 t138 t139))) else (galleyref02_Long.j1 kj8 t136 t137 t138 t139)))))) else (if t136 = 237 then ((galleyref02_in.f t137 128 159).bind fun t164 => (if t164 = true then (some 3) else ((galleyref02_in.f t136 238 239).bind fun t165 => (if t165 = true then ((galleyref02_in.f t137 128 191).bind fun t166 => (if t166 = true then (some 3) else (galleyref02_Long.j1 kj8 t136 t137 t138 t139))) else (galleyref02_Long.j1 kj8 t136 t137 t138 t139))))) else ((galleyref02_in.f t136 238 239).bind fun t167 => (if t167 = true then ((galleyref02_in.f t137 128 191).bind fun t168 => (if t168 = true then (some 3) else (galleyref02_Long.j1 kj8 t136 t137 t138 t139))) else (galleyref02_Long.j1 kj8 t136 t137 t138 t139))))))) else (galleyref02_Long.j1 kj8 t136 t137 t138 t139))) = some r := by rw [if_neg (show ¬ (false = true) by decide)] at H; exact H
          clear H
          have H := H1
          clear H1
          replace H := Option.bind_eq_some_iff.mp H
          obtain ⟨t143, A140, H⟩ := H
          replace H : (if t143 = true then (if t136 = 224 then ((galleyref02_in.f t137 160 191).bind fun t144 => (if t144 = true then (some 3) else ((galleyref02_in.f t136 225 236).bind fun t145 => (if t145 = true then ((galleyref02_in.f t137 128 191).bind fun t146 => (if t146 = true then (some 3) else (if t136 = 237 then ((galleyref02_in.f t137 128 159).bind fun t147 => (if t147 = true then (some 3) else ((galleyref02_in.f t136 238 239).bind fun t148 => (if t148 = true then ((galleyref02_in.f t137 128 191).bind fun t149 => (if t149 = true then (some 3) else (galleyref02_Long.j1 kj8 t136 t137 t138 t139))) else (galleyref02_Long.j1 kj8 t136 t137 t138 t139))))) else ((galleyref02_in.f t136 238 239).bind fun t150 => (if t150 = true then ((galleyref02_in.f t137 128 191).bind fun t151 => (if t151 = true then (some 3) else (galleyref02_Long.j1 kj8 t136 t137 t138 t139))) else (galleyref02_Long.j1 kj8 t136 t137 t138 t139)))))) else (if t136 = 237 then ((galleyref02_in.f t137 128 159).bind fun t152 => (if t152 = true then (some 3) else ((galleyref02_in.f t136 238 239).bind fun t153 => (if t153 = true then ((galleyref02_in.f t137 128 191).bind fun t154 => (if t154 = true then (some 3) else (galleyref02_Long.j1 kj8 t136 t137 t138 t139))) else (galleyref02_Long.j1 kj8 t136 t137 t138 t139))))) else ((galleyref02_in.f t136 238 239).bind fun t155 => (if t155 = true then ((galleyref02_in.f t137 128 191).bind fun t156 => (if t156 = true then (some 3) else (galleyref02_Long.j1 kj8 t136 t137 t138 t139))) else (galleyref02_Long.j1 kj8 t136 t137 t138 t139)))))))) else ((galleyref02_in.f t136 225 236).bind fun t157 => (if t157 = true then ((galleyref02_in.f t137 128 191).bind fun t158 => (if t158 = true then (some 3) else (if t136 = 237 then ((galleyref02_in.f t137 128 159).bind fun t159 => (if t159 = true then (some 3) else ((galleyref02_in.f t136 238 239).bind fun t160 => (if t160 = true then ((galleyref02_in.f t137 128 191).bind fun t161 => (if t161 = true then (some 3) else (galleyref02_Long.j1 kj8 t136 t137 t138 t139))) else (galleyref02_Long.j1 kj8 t136 t137 t138 t139))))) else ((galleyref02_in.f t136 238 239).bind fun t162 => (if t162 = true then ((galleyref02_in.f t137 128 191).bind fun t163 => (if t163 = true then (some 3) else (galleyref02_Long.j1 kj8 t136 t137 t138 t139))) else (galleyref02_Long.j1 kj8 t136 t137 t138 t139)))))) else (if t136 = 237 then ((galleyref02_in.f t137 128 159).bind fun t164 => (if t164 = true then (some 3) else ((galleyref02_in.f t136 238 239).bind fun t165 => (if t165 = true then ((galleyref02_in.f t137 128 191).bind fun t166 => (if t166 = true then (some 3) else (galleyref02_Long.j1 kj8 t136 t137 t138 t139))) else (galleyref02_Long.j1 kj8 t136 t137 t138 t139))))) else ((galleyref02_in.f t136 238 239).bind fun t167 => (if t167 = true then ((galleyref02_in.f t137 128 191).bind fun t168 => (if t168 = true then (some 3) else (galleyref02_Long.j1 kj8 t136 t137 t138 t139))) else (galleyref02_Long.j1 kj8 t136 t137 t138 t139))))))) else (galleyref02_Long.j1 kj8 t136 t137 t138 t139)) = some r := H
          have A14 := Aside0.mk A140
          clear A140
          have HC15 := Aside0.mk H
          clear H
          go_upto_if 33 with (first | ((with_reducible refine gate_callee (f := 40) rfl ?_); refine goesL_ (some 33) rfl rfl Tryd.func40 (by kernel_rfl) rfl #[.int .i64 t138, .int .i64 128, .int .i64 191] rfl (by (try simp only [List.map_toArray, List.map_cons, List.map_nil]); first | done | rfl | (simp only [List.length_drop, List.length_take]; rfl)) ?_; (with_reducible refine (galleyref02_in.calls t138 128 191 t143 _ A14.out).mono ?_); rintro e w' ⟨rfl, ⟨nd, rfl⟩⟩; refine ⟨_, rfl, ?_⟩))
          (try simp only [Act.put, List.setIfInBounds_toArray, List.set_cons_zero, List.set_cons_succ])
          go_cut [] (fun wc => ∃ (kq : Nat), Aside0 (galleyref02_Long.j1 kq t136 t137 t138 t139 = some r) ∧ Aside0 (kq ≤ kj8) ∧ Drawn0 w wc)
          case first =>
            have H := HC15.out
            clear HC15
            by_cases c16 : t143 = true
            · subst c16
              have H1 : (if t136 = 224 then ((galleyref02_in.f t137 160 191).bind fun t144 => (if t144 = true then (some 3) else ((galleyref02_in.f t136 225 236).bind fun t145 => (if t145 = true then ((galleyref02_in.f t137 128 191).bind fun t146 => (if t146 = true then (some 3) else (if t136 = 237 then ((galleyref02_in.f t137 128 159).bind fun t147 => (if t147 = true then (some 3) else ((galleyref02_in.f t136 238 239).bind fun t148 => (if t148 = true then ((galleyref02_in.f t137 128 191).bind fun t149 => (if t149 = true then (some 3) else (galleyref02_Long.j1 kj8 t136 t137 t138 t139))) else (galleyref02_Long.j1 kj8 t136 t137 t138 t139))))) else ((galleyref02_in.f t136 238 239).bind fun t150 => (if t150 = true then ((galleyref02_in.f t137 128 191).bind fun t151 => (if t151 = true then (some 3) else (galleyref02_Long.j1 kj8 t136 t137 t138 t139))) else (galleyref02_Long.j1 kj8 t136 t137 t138 t139)))))) else (if t136 = 237 then ((galleyref02_in.f t137 128 159).bind fun t152 => (if t152 = true then (some 3) else ((galleyref02_in.f t136 238 239).bind fun t153 => (if t153 = true then ((galleyref02_in.f t137 128 191).bind fun t154 => (if t154 = true then (some 3) else (galleyref02_Long.j1 kj8 t136 t137 t138 t139))) else (galleyref02_Long.j1 kj8 t136 t137 t138 t139))))) else ((galleyref02_in.f t136 238 239).bind fun t155 => (if t155 = true then ((galleyref02_in.f t137 128 191).bind fun t156 => (if t156 = true then (some 3) else (galleyref02_Long.j1 kj8 t136 t137 t138 t139))) else (galleyref02_Long.j1 kj8 t136 t137 t138 t139)))))))) else ((galleyref02_in.f t136 225 236).bind fun t157 => (if t157 = true then ((galleyref02_in.f t137 128 191).bind fun t158 => (if t158 = true then (some 3) else (if t136 = 237 then ((galleyref02_in.f t137 128 159).bind fun t159 => (if t159 = true then (some 3) else ((galleyref02_in.f t136 238 239).bind fun t160 => (if t160 = true then ((galleyref02_in.f t137 128 191).bind fun t161 => (if t161 = true then (some 3) else (galleyref02_Long.j1 kj8 t136 t137 t138 t139))) else (galleyref02_Long.j1 kj8 t136 t137 t138 t139))))) else ((galleyref02_in.f t136 238 239).bind fun t162 => (if t162 = true then ((galleyref02_in.f t137 128 191).bind fun t163 => (if t163 = true then (some 3) else (galleyref02_Long.j1 kj8 t136 t137 t138 t139))) else (galleyref02_Long.j1 kj8 t136 t137 t138 t139)))))) else (if t136 = 237 then ((galleyref02_in.f t137 128 159).bind fun t164 => (if t164 = true then (some 3) else ((galleyref02_in.f t136 238 239).bind fun t165 => (if t165 = true then ((galleyref02_in.f t137 128 191).bind fun t166 => (if t166 = true then (some 3) else (galleyref02_Long.j1 kj8 t136 t137 t138 t139))) else (galleyref02_Long.j1 kj8 t136 t137 t138 t139))))) else ((galleyref02_in.f t136 238 239).bind fun t167 => (if t167 = true then ((galleyref02_in.f t137 128 191).bind fun t168 => (if t168 = true then (some 3) else (galleyref02_Long.j1 kj8 t136 t137 t138 t139))) else (galleyref02_Long.j1 kj8 t136 t137 t138 t139))))))) = some r := by rw [if_pos rfl] at H; exact H
              clear H
              have H := H1
              clear H1
              by_cases c17 : t136 = 224
              · rw [if_pos c17] at H
                have c17b0 : (t136 == 224) = true := beq_iff_eq.mpr c17
                have c17b1 : (t136 != 224) = false := bne_eq_false_iff_eq.mpr c17
                clear c17
                (first | rw [c17b0] | (simp only [i64_w, i32_w]; rw [c17b0]) | skip)
                replace H := Option.bind_eq_some_iff.mp H
                obtain ⟨t144, A180, H⟩ := H
                replace H : (if t144 = true then (some 3) else ((galleyref02_in.f t136 225 236).bind fun t145 => (if t145 = true then ((galleyref02_in.f t137 128 191).bind fun t146 => (if t146 = true then (some 3) else (if t136 = 237 then ((galleyref02_in.f t137 128 159).bind fun t147 => (if t147 = true then (some 3) else ((galleyref02_in.f t136 238 239).bind fun t148 => (if t148 = true then ((galleyref02_in.f t137 128 191).bind fun t149 => (if t149 = true then (some 3) else (galleyref02_Long.j1 kj8 t136 t137 t138 t139))) else (galleyref02_Long.j1 kj8 t136 t137 t138 t139))))) else ((galleyref02_in.f t136 238 239).bind fun t150 => (if t150 = true then ((galleyref02_in.f t137 128 191).bind fun t151 => (if t151 = true then (some 3) else (galleyref02_Long.j1 kj8 t136 t137 t138 t139))) else (galleyref02_Long.j1 kj8 t136 t137 t138 t139)))))) else (if t136 = 237 then ((galleyref02_in.f t137 128 159).bind fun t152 => (if t152 = true then (some 3) else ((galleyref02_in.f t136 238 239).bind fun t153 => (if t153 = true then ((galleyref02_in.f t137 128 191).bind fun t154 => (if t154 = true then (some 3) else (galleyref02_Long.j1 kj8 t136 t137 t138 t139))) else (galleyref02_Long.j1 kj8 t136 t137 t138 t139))))) else ((galleyref02_in.f t136 238 239).bind fun t155 => (if t155 = true then ((galleyref02_in.f t137 128 191).bind fun t156 => (if t156 = true then (some 3) else (galleyref02_Long.j1 kj8 t136 t137 t138 t139))) else (galleyref02_Long.j1 kj8 t136 t137 t138 t139))))))) = some r := H
                have A18 := Aside0.mk A180
                clear A180
                by_cases c19 : t144 = true
                · subst c19
                  have H1 : (some 3) = some r := by rw [if_pos rfl] at H; exact H
                  clear H
                  have H := H1
                  clear H1
                  obtain rfl := Option.some.inj H
                  go_wp2_with (first | (go_at_call 40; (with_reducible refine (galleyref02_in.calls t137 160 191 true _ A18.out).mono ?_); rintro e w' ⟨rfl, ⟨nd, rfl⟩⟩))
                  go_ret
                  exact ⟨by first | rfl | (simp; done) | (simp [*]; done), by repeat (first | exact Drawn0.refl _ | apply Drawn0.step)⟩
                · replace c19 := Bool.eq_false_iff.mpr c19
                  subst c19
                  have H1 : ((galleyref02_in.f t136 225 236).bind fun t145 => (if t145 = true then ((galleyref02_in.f t137 128 191).bind fun t146 => (if t146 = true then (some 3) else (if t136 = 237 then ((galleyref02_in.f t137 128 159).bind fun t147 => (if t147 = true then (some 3) else ((galleyref02_in.f t136 238 239).bind fun t148 => (if t148 = true then ((galleyref02_in.f t137 128 191).bind fun t149 => (if t149 = true then (some 3) else (galleyref02_Long.j1 kj8 t136 t137 t138 t139))) else (galleyref02_Long.j1 kj8 t136 t137 t138 t139))))) else ((galleyref02_in.f t136 238 239).bind fun t150 => (if t150 = true then ((galleyref02_in.f t137 128 191).bind fun t151 => (if t151 = true then (some 3) else (galleyref02_Long.j1 kj8 t136 t137 t138 t139))) else (galleyref02_Long.j1 kj8 t136 t137 t138 t139)))))) else (if t136 = 237 then ((galleyref02_in.f t137 128 159).bind fun t152 => (if t152 = true then (some 3) else ((galleyref02_in.f t136 238 239).bind fun t153 => (if t153 = true then ((galleyref02_in.f t137 128 191).bind fun t154 => (if t154 = true then (some 3) else (galleyref02_Long.j1 kj8 t136 t137 t138 t139))) else (galleyref02_Long.j1 kj8 t136 t137 t138 t139))))) else ((galleyref02_in.f t136 238 239).bind fun t155 => (if t155 = true then ((galleyref02_in.f t137 128 191).bind fun t156 => (if t156 = true then (some 3) else (galleyref02_Long.j1 kj8 t136 t137 t138 t139))) else (galleyref02_Long.j1 kj8 t136 t137 t138 t139)))))) = some r := by rw [if_neg (show ¬ (false = true) by decide)] at H; exact H
                  clear H
                  have H := H1
                  clear H1
                  replace H := Option.bind_eq_some_iff.mp H
                  obtain ⟨t145, A200, H⟩ := H
                  replace H : (if t145 = true then ((galleyref02_in.f t137 128 191).bind fun t146 => (if t146 = true then (some 3) else (if t136 = 237 then ((galleyref02_in.f t137 128 159).bind fun t147 => (if t147 = true then (some 3) else ((galleyref02_in.f t136 238 239).bind fun t148 => (if t148 = true then ((galleyref02_in.f t137 128 191).bind fun t149 => (if t149 = true then (some 3) else (galleyref02_Long.j1 kj8 t136 t137 t138 t139))) else (galleyref02_Long.j1 kj8 t136 t137 t138 t139))))) else ((galleyref02_in.f t136 238 239).bind fun t150 => (if t150 = true then ((galleyref02_in.f t137 128 191).bind fun t151 => (if t151 = true then (some 3) else (galleyref02_Long.j1 kj8 t136 t137 t138 t139))) else (galleyref02_Long.j1 kj8 t136 t137 t138 t139)))))) else (if t136 = 237 then ((galleyref02_in.f t137 128 159).bind fun t152 => (if t152 = true then (some 3) else ((galleyref02_in.f t136 238 239).bind fun t153 => (if t153 = true then ((galleyref02_in.f t137 128 191).bind fun t154 => (if t154 = true then (some 3) else (galleyref02_Long.j1 kj8 t136 t137 t138 t139))) else (galleyref02_Long.j1 kj8 t136 t137 t138 t139))))) else ((galleyref02_in.f t136 238 239).bind fun t155 => (if t155 = true then ((galleyref02_in.f t137 128 191).bind fun t156 => (if t156 = true then (some 3) else (galleyref02_Long.j1 kj8 t136 t137 t138 t139))) else (galleyref02_Long.j1 kj8 t136 t137 t138 t139))))) = some r := H
                  have A20 := Aside0.mk A200
                  clear A200
                  by_cases c21 : t145 = true
                  · subst c21
                    have H1 : ((galleyref02_in.f t137 128 191).bind fun t146 => (if t146 = true then (some 3) else (if t136 = 237 then ((galleyref02_in.f t137 128 159).bind fun t147 => (if t147 = true then (some 3) else ((galleyref02_in.f t136 238 239).bind fun t148 => (if t148 = true then ((galleyref02_in.f t137 128 191).bind fun t149 => (if t149 = true then (some 3) else (galleyref02_Long.j1 kj8 t136 t137 t138 t139))) else (galleyref02_Long.j1 kj8 t136 t137 t138 t139))))) else ((galleyref02_in.f t136 238 239).bind fun t150 => (if t150 = true then ((galleyref02_in.f t137 128 191).bind fun t151 => (if t151 = true then (some 3) else (galleyref02_Long.j1 kj8 t136 t137 t138 t139))) else (galleyref02_Long.j1 kj8 t136 t137 t138 t139)))))) = some r := by rw [if_pos rfl] at H; exact H
                    clear H
                    have H := H1
                    clear H1
                    replace H := Option.bind_eq_some_iff.mp H
                    obtain ⟨t146, A220, H⟩ := H
                    replace H : (if t146 = true then (some 3) else (if t136 = 237 then ((galleyref02_in.f t137 128 159).bind fun t147 => (if t147 = true then (some 3) else ((galleyref02_in.f t136 238 239).bind fun t148 => (if t148 = true then ((galleyref02_in.f t137 128 191).bind fun t149 => (if t149 = true then (some 3) else (galleyref02_Long.j1 kj8 t136 t137 t138 t139))) else (galleyref02_Long.j1 kj8 t136 t137 t138 t139))))) else ((galleyref02_in.f t136 238 239).bind fun t150 => (if t150 = true then ((galleyref02_in.f t137 128 191).bind fun t151 => (if t151 = true then (some 3) else (galleyref02_Long.j1 kj8 t136 t137 t138 t139))) else (galleyref02_Long.j1 kj8 t136 t137 t138 t139))))) = some r := H
                    have A22 := Aside0.mk A220
                    clear A220
                    by_cases c23 : t146 = true
                    · subst c23
                      have H1 : (some 3) = some r := by rw [if_pos rfl] at H; exact H
                      clear H
                      have H := H1
                      clear H1
                      obtain rfl := Option.some.inj H
                      go_wp2_with (first | (go_at_call 40; (with_reducible refine (galleyref02_in.calls t137 160 191 false _ A18.out).mono ?_); rintro e w' ⟨rfl, ⟨nd, rfl⟩⟩) | (go_at_call 40; (with_reducible refine (galleyref02_in.calls t136 225 236 true _ A20.out).mono ?_); rintro e w' ⟨rfl, ⟨nd, rfl⟩⟩) | (go_at_call 40; (with_reducible refine (galleyref02_in.calls t137 128 191 true _ A22.out).mono ?_); rintro e w' ⟨rfl, ⟨nd, rfl⟩⟩))
                      go_ret
                      exact ⟨by first | rfl | (simp; done) | (simp [*]; done), by repeat (first | exact Drawn0.refl _ | apply Drawn0.step)⟩
                    · replace c23 := Bool.eq_false_iff.mpr c23
                      subst c23
                      have H1 : (if t136 = 237 then ((galleyref02_in.f t137 128 159).bind fun t147 => (if t147 = true then (some 3) else ((galleyref02_in.f t136 238 239).bind fun t148 => (if t148 = true then ((galleyref02_in.f t137 128 191).bind fun t149 => (if t149 = true then (some 3) else (galleyref02_Long.j1 kj8 t136 t137 t138 t139))) else (galleyref02_Long.j1 kj8 t136 t137 t138 t139))))) else ((galleyref02_in.f t136 238 239).bind fun t150 => (if t150 = true then ((galleyref02_in.f t137 128 191).bind fun t151 => (if t151 = true then (some 3) else (galleyref02_Long.j1 kj8 t136 t137 t138 t139))) else (galleyref02_Long.j1 kj8 t136 t137 t138 t139)))) = some r := by rw [if_neg (show ¬ (false = true) by decide)] at H; exact H
                      clear H
                      have H := H1
                      clear H1
                      by_cases c24 : t136 = 237
                      · rw [if_pos c24] at H
                        have c24b0 : (t136 == 237) = true := beq_iff_eq.mpr c24
                        have c24b1 : (t136 != 237) = false := bne_eq_false_iff_eq.mpr c24
                        clear c24
                        replace H := Option.bind_eq_some_iff.mp H
                        obtain ⟨t147, A250, H⟩ := H
                        replace H : (if t147 = true then (some 3) else ((galleyref02_in.f t136 238 239).bind fun t148 => (if t148 = true then ((galleyref02_in.f t137 128 191).bind fun t149 => (if t149 = true then (some 3) else (galleyref02_Long.j1 kj8 t136 t137 t138 t139))) else (galleyref02_Long.j1 kj8 t136 t137 t138 t139)))) = some r := H
                        have A25 := Aside0.mk A250
                        clear A250
                        by_cases c26 : t147 = true
                        · subst c26
                          have H1 : (some 3) = some r := by rw [if_pos rfl] at H; exact H
                          clear H
                          have H := H1
                          clear H1
                          obtain rfl := Option.some.inj H
                          go_wp2_with (first | (go_at_call 40; (with_reducible refine (galleyref02_in.calls t137 160 191 false _ A18.out).mono ?_); rintro e w' ⟨rfl, ⟨nd, rfl⟩⟩) | (go_at_call 40; (with_reducible refine (galleyref02_in.calls t136 225 236 true _ A20.out).mono ?_); rintro e w' ⟨rfl, ⟨nd, rfl⟩⟩) | (go_at_call 40; (with_reducible refine (galleyref02_in.calls t137 128 191 false _ A22.out).mono ?_); rintro e w' ⟨rfl, ⟨nd, rfl⟩⟩) | (go_at_call 40; (with_reducible refine (galleyref02_in.calls t137 128 159 true _ A25.out).mono ?_); rintro e w' ⟨rfl, ⟨nd, rfl⟩⟩))
                          go_ret
                          exact ⟨by first | rfl | (simp; done) | (simp [*]; done), by repeat (first | exact Drawn0.refl _ | apply Drawn0.step)⟩
                        · replace c26 := Bool.eq_false_iff.mpr c26
                          subst c26
                          have H1 : ((galleyref02_in.f t136 238 239).bind fun t148 => (if t148 = true then ((galleyref02_in.f t137 128 191).bind fun t149 => (if t149 = true then (some 3) else (galleyref02_Long.j1 kj8 t136 t137 t138 t139))) else (galleyref02_Long.j1 kj8 t136 t137 t138 t139))) = some r := by rw [if_neg (show ¬ (false = true) by decide)] at H; exact H
                          clear H
                          have H := H1
                          clear H1
                          replace H := Option.bind_eq_some_iff.mp H
                          obtain ⟨t148, A270, H⟩ := H
                          replace H : (if t148 = true then ((galleyref02_in.f t137 128 191).bind fun t149 => (if t149 = true then (some 3) else (galleyref02_Long.j1 kj8 t136 t137 t138 t139))) else (galleyref02_Long.j1 kj8 t136 t137 t138 t139)) = some r := H
                          have A27 := Aside0.mk A270
                          clear A270
                          by_cases c28 : t148 = true
                          · subst c28
                            have H1 : ((galleyref02_in.f t137 128 191).bind fun t149 => (if t149 = true then (some 3) else (galleyref02_Long.j1 kj8 t136 t137 t138 t139))) = some r := by rw [if_pos rfl] at H; exact H
                            clear H
                            have H := H1
                            clear H1
                            replace H := Option.bind_eq_some_iff.mp H
                            obtain ⟨t149, A290, H⟩ := H
                            replace H : (if t149 = true then (some 3) else (galleyref02_Long.j1 kj8 t136 t137 t138 t139)) = some r := H
                            have A29 := Aside0.mk A290
                            clear A290
                            by_cases c30 : t149 = true
                            · subst c30
                              have H1 : (some 3) = some r := by rw [if_pos rfl] at H; exact H
                              clear H
                              have H := H1
                              clear H1
                              obtain rfl := Option.some.inj H
                              exact absurd (Option.some.inj (A29.out.symm.trans A22.out)) (by decide)
                            · replace c30 := Bool.eq_false_iff.mpr c30
                              subst c30
                              have H1 : (galleyref02_Long.j1 kj8 t136 t137 t138 t139) = some r := by rw [if_neg (show ¬ (false = true) by decide)] at H; exact H
                              clear H
                              have H := H1
                              clear H1
                              have H' := Aside0.mk H
                              clear H
                              go_wp2_with (first | (go_at_call 40; (with_reducible refine (galleyref02_in.calls t137 160 191 false _ A18.out).mono ?_); rintro e w' ⟨rfl, ⟨nd, rfl⟩⟩) | (go_at_call 40; (with_reducible refine (galleyref02_in.calls t136 225 236 true _ A20.out).mono ?_); rintro e w' ⟨rfl, ⟨nd, rfl⟩⟩) | (go_at_call 40; (with_reducible refine (galleyref02_in.calls t137 128 191 false _ A22.out).mono ?_); rintro e w' ⟨rfl, ⟨nd, rfl⟩⟩) | (go_at_call 40; (with_reducible refine (galleyref02_in.calls t137 128 159 false _ A25.out).mono ?_); rintro e w' ⟨rfl, ⟨nd, rfl⟩⟩) | (go_at_call 40; (with_reducible refine (galleyref02_in.calls t136 238 239 true _ A27.out).mono ?_); rintro e w' ⟨rfl, ⟨nd, rfl⟩⟩) | (go_at_call 40; (with_reducible refine (galleyref02_in.calls t137 128 191 false _ A29.out).mono ?_); rintro e w' ⟨rfl, ⟨nd, rfl⟩⟩))
                              go_meet
                              case rel => exact ⟨_, H', ⟨by have := HJ8.out; first | omega | exact Nat.le_refl _⟩, by repeat (first | exact Drawn0.refl _ | apply Drawn0.step)⟩
                          · replace c28 := Bool.eq_false_iff.mpr c28
                            subst c28
                            have H1 : (galleyref02_Long.j1 kj8 t136 t137 t138 t139) = some r := by rw [if_neg (show ¬ (false = true) by decide)] at H; exact H
                            clear H
                            have H := H1
                            clear H1
                            have H' := Aside0.mk H
                            clear H
                            go_wp2_with (first | (go_at_call 40; (with_reducible refine (galleyref02_in.calls t137 160 191 false _ A18.out).mono ?_); rintro e w' ⟨rfl, ⟨nd, rfl⟩⟩) | (go_at_call 40; (with_reducible refine (galleyref02_in.calls t136 225 236 true _ A20.out).mono ?_); rintro e w' ⟨rfl, ⟨nd, rfl⟩⟩) | (go_at_call 40; (with_reducible refine (galleyref02_in.calls t137 128 191 false _ A22.out).mono ?_); rintro e w' ⟨rfl, ⟨nd, rfl⟩⟩) | (go_at_call 40; (with_reducible refine (galleyref02_in.calls t137 128 159 false _ A25.out).mono ?_); rintro e w' ⟨rfl, ⟨nd, rfl⟩⟩) | (go_at_call 40; (with_reducible refine (galleyref02_in.calls t136 238 239 false _ A27.out).mono ?_); rintro e w' ⟨rfl, ⟨nd, rfl⟩⟩))
                            go_meet
                            case rel => exact ⟨_, H', ⟨by have := HJ8.out; first | omega | exact Nat.le_refl _⟩, by repeat (first | exact Drawn0.refl _ | apply Drawn0.step)⟩
                      · rw [if_neg c24] at H
                        have c24b0 : (t136 == 237) = false := beq_eq_false_iff_ne.mpr c24
                        have c24b1 : (t136 != 237) = true := bne_iff_ne.mpr c24
                        replace H := Option.bind_eq_some_iff.mp H
                        obtain ⟨t150, A310, H⟩ := H
                        replace H : (if t150 = true then ((galleyref02_in.f t137 128 191).bind fun t151 => (if t151 = true then (some 3) else (galleyref02_Long.j1 kj8 t136 t137 t138 t139))) else (galleyref02_Long.j1 kj8 t136 t137 t138 t139)) = some r := H
                        have A31 := Aside0.mk A310
                        clear A310
                        by_cases c32 : t150 = true
                        · subst c32
                          have H1 : ((galleyref02_in.f t137 128 191).bind fun t151 => (if t151 = true then (some 3) else (galleyref02_Long.j1 kj8 t136 t137 t138 t139))) = some r := by rw [if_pos rfl] at H; exact H
                          clear H
                          have H := H1
                          clear H1
                          replace H := Option.bind_eq_some_iff.mp H
                          obtain ⟨t151, A330, H⟩ := H
                          replace H : (if t151 = true then (some 3) else (galleyref02_Long.j1 kj8 t136 t137 t138 t139)) = some r := H
                          have A33 := Aside0.mk A330
                          clear A330
                          by_cases c34 : t151 = true
                          · subst c34
                            have H1 : (some 3) = some r := by rw [if_pos rfl] at H; exact H
                            clear H
                            have H := H1
                            clear H1
                            obtain rfl := Option.some.inj H
                            exact absurd (Option.some.inj (A33.out.symm.trans A22.out)) (by decide)
                          · replace c34 := Bool.eq_false_iff.mpr c34
                            subst c34
                            have H1 : (galleyref02_Long.j1 kj8 t136 t137 t138 t139) = some r := by rw [if_neg (show ¬ (false = true) by decide)] at H; exact H
                            clear H
                            have H := H1
                            clear H1
                            have H' := Aside0.mk H
                            clear H
                            go_wp2_with (first | (go_at_call 40; (with_reducible refine (galleyref02_in.calls t137 160 191 false _ A18.out).mono ?_); rintro e w' ⟨rfl, ⟨nd, rfl⟩⟩) | (go_at_call 40; (with_reducible refine (galleyref02_in.calls t136 225 236 true _ A20.out).mono ?_); rintro e w' ⟨rfl, ⟨nd, rfl⟩⟩) | (go_at_call 40; (with_reducible refine (galleyref02_in.calls t137 128 191 false _ A22.out).mono ?_); rintro e w' ⟨rfl, ⟨nd, rfl⟩⟩) | (go_at_call 40; (with_reducible refine (galleyref02_in.calls t136 238 239 true _ A31.out).mono ?_); rintro e w' ⟨rfl, ⟨nd, rfl⟩⟩) | (go_at_call 40; (with_reducible refine (galleyref02_in.calls t137 128 191 false _ A33.out).mono ?_); rintro e w' ⟨rfl, ⟨nd, rfl⟩⟩))
                            go_meet
                            case rel => exact ⟨_, H', ⟨by have := HJ8.out; first | omega | exact Nat.le_refl _⟩, by repeat (first | exact Drawn0.refl _ | apply Drawn0.step)⟩
                        · replace c32 := Bool.eq_false_iff.mpr c32
                          subst c32
                          have H1 : (galleyref02_Long.j1 kj8 t136 t137 t138 t139) = some r := by rw [if_neg (show ¬ (false = true) by decide)] at H; exact H
                          clear H
                          have H := H1
                          clear H1
                          have H' := Aside0.mk H
                          clear H
                          go_wp2_with (first | (go_at_call 40; (with_reducible refine (galleyref02_in.calls t137 160 191 false _ A18.out).mono ?_); rintro e w' ⟨rfl, ⟨nd, rfl⟩⟩) | (go_at_call 40; (with_reducible refine (galleyref02_in.calls t136 225 236 true _ A20.out).mono ?_); rintro e w' ⟨rfl, ⟨nd, rfl⟩⟩) | (go_at_call 40; (with_reducible refine (galleyref02_in.calls t137 128 191 false _ A22.out).mono ?_); rintro e w' ⟨rfl, ⟨nd, rfl⟩⟩) | (go_at_call 40; (with_reducible refine (galleyref02_in.calls t136 238 239 false _ A31.out).mono ?_); rintro e w' ⟨rfl, ⟨nd, rfl⟩⟩))
                          go_meet
                          case rel => exact ⟨_, H', ⟨by have := HJ8.out; first | omega | exact Nat.le_refl _⟩, by repeat (first | exact Drawn0.refl _ | apply Drawn0.step)⟩
                  · replace c21 := Bool.eq_false_iff.mpr c21
                    subst c21
                    have H1 : (if t136 = 237 then ((galleyref02_in.f t137 128 159).bind fun t152 => (if t152 = true then (some 3) else ((galleyref02_in.f t136 238 239).bind fun t153 => (if t153 = true then ((galleyref02_in.f t137 128 191).bind fun t154 => (if t154 = true then (some 3) else (galleyref02_Long.j1 kj8 t136 t137 t138 t139))) else (galleyref02_Long.j1 kj8 t136 t137 t138 t139))))) else ((galleyref02_in.f t136 238 239).bind fun t155 => (if t155 = true then ((galleyref02_in.f t137 128 191).bind fun t156 => (if t156 = true then (some 3) else (galleyref02_Long.j1 kj8 t136 t137 t138 t139))) else (galleyref02_Long.j1 kj8 t136 t137 t138 t139)))) = some r := by rw [if_neg (show ¬ (false = true) by decide)] at H; exact H
                    clear H
                    have H := H1
                    clear H1
                    by_cases c35 : t136 = 237
                    · rw [if_pos c35] at H
                      have c35b0 : (t136 == 237) = true := beq_iff_eq.mpr c35
                      have c35b1 : (t136 != 237) = false := bne_eq_false_iff_eq.mpr c35
                      clear c35
                      replace H := Option.bind_eq_some_iff.mp H
                      obtain ⟨t152, A360, H⟩ := H
                      replace H : (if t152 = true then (some 3) else ((galleyref02_in.f t136 238 239).bind fun t153 => (if t153 = true then ((galleyref02_in.f t137 128 191).bind fun t154 => (if t154 = true then (some 3) else (galleyref02_Long.j1 kj8 t136 t137 t138 t139))) else (galleyref02_Long.j1 kj8 t136 t137 t138 t139)))) = some r := H
                      have A36 := Aside0.mk A360
                      clear A360
                      by_cases c37 : t152 = true
                      · subst c37
                        have H1 : (some 3) = some r := by rw [if_pos rfl] at H; exact H
                        clear H
                        have H := H1
                        clear H1
                        obtain rfl := Option.some.inj H
                        go_wp2_with (first | (go_at_call 40; (with_reducible refine (galleyref02_in.calls t137 160 191 false _ A18.out).mono ?_); rintro e w' ⟨rfl, ⟨nd, rfl⟩⟩) | (go_at_call 40; (with_reducible refine (galleyref02_in.calls t136 225 236 false _ A20.out).mono ?_); rintro e w' ⟨rfl, ⟨nd, rfl⟩⟩) | (go_at_call 40; (with_reducible refine (galleyref02_in.calls t137 128 159 true _ A36.out).mono ?_); rintro e w' ⟨rfl, ⟨nd, rfl⟩⟩))
                        go_ret
                        exact ⟨by first | rfl | (simp; done) | (simp [*]; done), by repeat (first | exact Drawn0.refl _ | apply Drawn0.step)⟩
                      · replace c37 := Bool.eq_false_iff.mpr c37
                        subst c37
                        have H1 : ((galleyref02_in.f t136 238 239).bind fun t153 => (if t153 = true then ((galleyref02_in.f t137 128 191).bind fun t154 => (if t154 = true then (some 3) else (galleyref02_Long.j1 kj8 t136 t137 t138 t139))) else (galleyref02_Long.j1 kj8 t136 t137 t138 t139))) = some r := by rw [if_neg (show ¬ (false = true) by decide)] at H; exact H
                        clear H
                        have H := H1
                        clear H1
                        replace H := Option.bind_eq_some_iff.mp H
                        obtain ⟨t153, A380, H⟩ := H
                        replace H : (if t153 = true then ((galleyref02_in.f t137 128 191).bind fun t154 => (if t154 = true then (some 3) else (galleyref02_Long.j1 kj8 t136 t137 t138 t139))) else (galleyref02_Long.j1 kj8 t136 t137 t138 t139)) = some r := H
                        have A38 := Aside0.mk A380
                        clear A380
                        by_cases c39 : t153 = true
                        · subst c39
                          have H1 : ((galleyref02_in.f t137 128 191).bind fun t154 => (if t154 = true then (some 3) else (galleyref02_Long.j1 kj8 t136 t137 t138 t139))) = some r := by rw [if_pos rfl] at H; exact H
                          clear H
                          have H := H1
                          clear H1
                          replace H := Option.bind_eq_some_iff.mp H
                          obtain ⟨t154, A400, H⟩ := H
                          replace H : (if t154 = true then (some 3) else (galleyref02_Long.j1 kj8 t136 t137 t138 t139)) = some r := H
                          have A40 := Aside0.mk A400
                          clear A400
                          by_cases c41 : t154 = true
                          · subst c41
                            have H1 : (some 3) = some r := by rw [if_pos rfl] at H; exact H
                            clear H
                            have H := H1
                            clear H1
                            obtain rfl := Option.some.inj H
                            go_wp2_with (first | (go_at_call 40; (with_reducible refine (galleyref02_in.calls t137 160 191 false _ A18.out).mono ?_); rintro e w' ⟨rfl, ⟨nd, rfl⟩⟩) | (go_at_call 40; (with_reducible refine (galleyref02_in.calls t136 225 236 false _ A20.out).mono ?_); rintro e w' ⟨rfl, ⟨nd, rfl⟩⟩) | (go_at_call 40; (with_reducible refine (galleyref02_in.calls t137 128 159 false _ A36.out).mono ?_); rintro e w' ⟨rfl, ⟨nd, rfl⟩⟩) | (go_at_call 40; (with_reducible refine (galleyref02_in.calls t136 238 239 true _ A38.out).mono ?_); rintro e w' ⟨rfl, ⟨nd, rfl⟩⟩) | (go_at_call 40; (with_reducible refine (galleyref02_in.calls t137 128 191 true _ A40.out).mono ?_); rintro e w' ⟨rfl, ⟨nd, rfl⟩⟩))
                            go_ret
                            exact ⟨by first | rfl | (simp; done) | (simp [*]; done), by repeat (first | exact Drawn0.refl _ | apply Drawn0.step)⟩
                          · replace c41 := Bool.eq_false_iff.mpr c41
                            subst c41
                            have H1 : (galleyref02_Long.j1 kj8 t136 t137 t138 t139) = some r := by rw [if_neg (show ¬ (false = true) by decide)] at H; exact H
                            clear H
                            have H := H1
                            clear H1
                            have H' := Aside0.mk H
                            clear H
                            go_wp2_with (first | (go_at_call 40; (with_reducible refine (galleyref02_in.calls t137 160 191 false _ A18.out).mono ?_); rintro e w' ⟨rfl, ⟨nd, rfl⟩⟩) | (go_at_call 40; (with_reducible refine (galleyref02_in.calls t136 225 236 false _ A20.out).mono ?_); rintro e w' ⟨rfl, ⟨nd, rfl⟩⟩) | (go_at_call 40; (with_reducible refine (galleyref02_in.calls t137 128 159 false _ A36.out).mono ?_); rintro e w' ⟨rfl, ⟨nd, rfl⟩⟩) | (go_at_call 40; (with_reducible refine (galleyref02_in.calls t136 238 239 true _ A38.out).mono ?_); rintro e w' ⟨rfl, ⟨nd, rfl⟩⟩) | (go_at_call 40; (with_reducible refine (galleyref02_in.calls t137 128 191 false _ A40.out).mono ?_); rintro e w' ⟨rfl, ⟨nd, rfl⟩⟩))
                            go_meet
                            case rel => exact ⟨_, H', ⟨by have := HJ8.out; first | omega | exact Nat.le_refl _⟩, by repeat (first | exact Drawn0.refl _ | apply Drawn0.step)⟩
                        · replace c39 := Bool.eq_false_iff.mpr c39
                          subst c39
                          have H1 : (galleyref02_Long.j1 kj8 t136 t137 t138 t139) = some r := by rw [if_neg (show ¬ (false = true) by decide)] at H; exact H
                          clear H
                          have H := H1
                          clear H1
                          have H' := Aside0.mk H
                          clear H
                          go_wp2_with (first | (go_at_call 40; (with_reducible refine (galleyref02_in.calls t137 160 191 false _ A18.out).mono ?_); rintro e w' ⟨rfl, ⟨nd, rfl⟩⟩) | (go_at_call 40; (with_reducible refine (galleyref02_in.calls t136 225 236 false _ A20.out).mono ?_); rintro e w' ⟨rfl, ⟨nd, rfl⟩⟩) | (go_at_call 40; (with_reducible refine (galleyref02_in.calls t137 128 159 false _ A36.out).mono ?_); rintro e w' ⟨rfl, ⟨nd, rfl⟩⟩) | (go_at_call 40; (with_reducible refine (galleyref02_in.calls t136 238 239 false _ A38.out).mono ?_); rintro e w' ⟨rfl, ⟨nd, rfl⟩⟩))
                          go_meet
                          case rel => exact ⟨_, H', ⟨by have := HJ8.out; first | omega | exact Nat.le_refl _⟩, by repeat (first | exact Drawn0.refl _ | apply Drawn0.step)⟩
                    · rw [if_neg c35] at H
                      have c35b0 : (t136 == 237) = false := beq_eq_false_iff_ne.mpr c35
                      have c35b1 : (t136 != 237) = true := bne_iff_ne.mpr c35
                      replace H := Option.bind_eq_some_iff.mp H
                      obtain ⟨t155, A420, H⟩ := H
                      replace H : (if t155 = true then ((galleyref02_in.f t137 128 191).bind fun t156 => (if t156 = true then (some 3) else (galleyref02_Long.j1 kj8 t136 t137 t138 t139))) else (galleyref02_Long.j1 kj8 t136 t137 t138 t139)) = some r := H
                      have A42 := Aside0.mk A420
                      clear A420
                      by_cases c43 : t155 = true
                      · subst c43
                        have H1 : ((galleyref02_in.f t137 128 191).bind fun t156 => (if t156 = true then (some 3) else (galleyref02_Long.j1 kj8 t136 t137 t138 t139))) = some r := by rw [if_pos rfl] at H; exact H
                        clear H
                        have H := H1
                        clear H1
                        replace H := Option.bind_eq_some_iff.mp H
                        obtain ⟨t156, A440, H⟩ := H
                        replace H : (if t156 = true then (some 3) else (galleyref02_Long.j1 kj8 t136 t137 t138 t139)) = some r := H
                        have A44 := Aside0.mk A440
                        clear A440
                        by_cases c45 : t156 = true
                        · subst c45
                          have H1 : (some 3) = some r := by rw [if_pos rfl] at H; exact H
                          clear H
                          have H := H1
                          clear H1
                          obtain rfl := Option.some.inj H
                          go_wp2_with (first | (go_at_call 40; (with_reducible refine (galleyref02_in.calls t137 160 191 false _ A18.out).mono ?_); rintro e w' ⟨rfl, ⟨nd, rfl⟩⟩) | (go_at_call 40; (with_reducible refine (galleyref02_in.calls t136 225 236 false _ A20.out).mono ?_); rintro e w' ⟨rfl, ⟨nd, rfl⟩⟩) | (go_at_call 40; (with_reducible refine (galleyref02_in.calls t136 238 239 true _ A42.out).mono ?_); rintro e w' ⟨rfl, ⟨nd, rfl⟩⟩) | (go_at_call 40; (with_reducible refine (galleyref02_in.calls t137 128 191 true _ A44.out).mono ?_); rintro e w' ⟨rfl, ⟨nd, rfl⟩⟩))
                          go_ret
                          exact ⟨by first | rfl | (simp; done) | (simp [*]; done), by repeat (first | exact Drawn0.refl _ | apply Drawn0.step)⟩
                        · replace c45 := Bool.eq_false_iff.mpr c45
                          subst c45
                          have H1 : (galleyref02_Long.j1 kj8 t136 t137 t138 t139) = some r := by rw [if_neg (show ¬ (false = true) by decide)] at H; exact H
                          clear H
                          have H := H1
                          clear H1
                          have H' := Aside0.mk H
                          clear H
                          go_wp2_with (first | (go_at_call 40; (with_reducible refine (galleyref02_in.calls t137 160 191 false _ A18.out).mono ?_); rintro e w' ⟨rfl, ⟨nd, rfl⟩⟩) | (go_at_call 40; (with_reducible refine (galleyref02_in.calls t136 225 236 false _ A20.out).mono ?_); rintro e w' ⟨rfl, ⟨nd, rfl⟩⟩) | (go_at_call 40; (with_reducible refine (galleyref02_in.calls t136 238 239 true _ A42.out).mono ?_); rintro e w' ⟨rfl, ⟨nd, rfl⟩⟩) | (go_at_call 40; (with_reducible refine (galleyref02_in.calls t137 128 191 false _ A44.out).mono ?_); rintro e w' ⟨rfl, ⟨nd, rfl⟩⟩))
                          go_meet
                          case rel => exact ⟨_, H', ⟨by have := HJ8.out; first | omega | exact Nat.le_refl _⟩, by repeat (first | exact Drawn0.refl _ | apply Drawn0.step)⟩
                      · replace c43 := Bool.eq_false_iff.mpr c43
                        subst c43
                        have H1 : (galleyref02_Long.j1 kj8 t136 t137 t138 t139) = some r := by rw [if_neg (show ¬ (false = true) by decide)] at H; exact H
                        clear H
                        have H := H1
                        clear H1
                        have H' := Aside0.mk H
                        clear H
                        go_wp2_with (first | (go_at_call 40; (with_reducible refine (galleyref02_in.calls t137 160 191 false _ A18.out).mono ?_); rintro e w' ⟨rfl, ⟨nd, rfl⟩⟩) | (go_at_call 40; (with_reducible refine (galleyref02_in.calls t136 225 236 false _ A20.out).mono ?_); rintro e w' ⟨rfl, ⟨nd, rfl⟩⟩) | (go_at_call 40; (with_reducible refine (galleyref02_in.calls t136 238 239 false _ A42.out).mono ?_); rintro e w' ⟨rfl, ⟨nd, rfl⟩⟩))
                        go_meet
                        case rel => exact ⟨_, H', ⟨by have := HJ8.out; first | omega | exact Nat.le_refl _⟩, by repeat (first | exact Drawn0.refl _ | apply Drawn0.step)⟩
              · rw [if_neg c17] at H
                have c17b0 : (t136 == 224) = false := beq_eq_false_iff_ne.mpr c17
                have c17b1 : (t136 != 224) = true := bne_iff_ne.mpr c17
                (first | rw [c17b0] | (simp only [i64_w, i32_w]; rw [c17b0]) | skip)
                replace H := Option.bind_eq_some_iff.mp H
                obtain ⟨t157, A460, H⟩ := H
                replace H : (if t157 = true then ((galleyref02_in.f t137 128 191).bind fun t158 => (if t158 = true then (some 3) else (if t136 = 237 then ((galleyref02_in.f t137 128 159).bind fun t159 => (if t159 = true then (some 3) else ((galleyref02_in.f t136 238 239).bind fun t160 => (if t160 = true then ((galleyref02_in.f t137 128 191).bind fun t161 => (if t161 = true then (some 3) else (galleyref02_Long.j1 kj8 t136 t137 t138 t139))) else (galleyref02_Long.j1 kj8 t136 t137 t138 t139))))) else ((galleyref02_in.f t136 238 239).bind fun t162 => (if t162 = true then ((galleyref02_in.f t137 128 191).bind fun t163 => (if t163 = true then (some 3) else (galleyref02_Long.j1 kj8 t136 t137 t138 t139))) else (galleyref02_Long.j1 kj8 t136 t137 t138 t139)))))) else (if t136 = 237 then ((galleyref02_in.f t137 128 159).bind fun t164 => (if t164 = true then (some 3) else ((galleyref02_in.f t136 238 239).bind fun t165 => (if t165 = true then ((galleyref02_in.f t137 128 191).bind fun t166 => (if t166 = true then (some 3) else (galleyref02_Long.j1 kj8 t136 t137 t138 t139))) else (galleyref02_Long.j1 kj8 t136 t137 t138 t139))))) else ((galleyref02_in.f t136 238 239).bind fun t167 => (if t167 = true then ((galleyref02_in.f t137 128 191).bind fun t168 => (if t168 = true then (some 3) else (galleyref02_Long.j1 kj8 t136 t137 t138 t139))) else (galleyref02_Long.j1 kj8 t136 t137 t138 t139))))) = some r := H
                have A46 := Aside0.mk A460
                clear A460
                by_cases c47 : t157 = true
                · subst c47
                  have H1 : ((galleyref02_in.f t137 128 191).bind fun t158 => (if t158 = true then (some 3) else (if t136 = 237 then ((galleyref02_in.f t137 128 159).bind fun t159 => (if t159 = true then (some 3) else ((galleyref02_in.f t136 238 239).bind fun t160 => (if t160 = true then ((galleyref02_in.f t137 128 191).bind fun t161 => (if t161 = true then (some 3) else (galleyref02_Long.j1 kj8 t136 t137 t138 t139))) else (galleyref02_Long.j1 kj8 t136 t137 t138 t139))))) else ((galleyref02_in.f t136 238 239).bind fun t162 => (if t162 = true then ((galleyref02_in.f t137 128 191).bind fun t163 => (if t163 = true then (some 3) else (galleyref02_Long.j1 kj8 t136 t137 t138 t139))) else (galleyref02_Long.j1 kj8 t136 t137 t138 t139)))))) = some r := by rw [if_pos rfl] at H; exact H
                  clear H
                  have H := H1
                  clear H1
                  replace H := Option.bind_eq_some_iff.mp H
                  obtain ⟨t158, A480, H⟩ := H
                  replace H : (if t158 = true then (some 3) else (if t136 = 237 then ((galleyref02_in.f t137 128 159).bind fun t159 => (if t159 = true then (some 3) else ((galleyref02_in.f t136 238 239).bind fun t160 => (if t160 = true then ((galleyref02_in.f t137 128 191).bind fun t161 => (if t161 = true then (some 3) else (galleyref02_Long.j1 kj8 t136 t137 t138 t139))) else (galleyref02_Long.j1 kj8 t136 t137 t138 t139))))) else ((galleyref02_in.f t136 238 239).bind fun t162 => (if t162 = true then ((galleyref02_in.f t137 128 191).bind fun t163 => (if t163 = true then (some 3) else (galleyref02_Long.j1 kj8 t136 t137 t138 t139))) else (galleyref02_Long.j1 kj8 t136 t137 t138 t139))))) = some r := H
                  have A48 := Aside0.mk A480
                  clear A480
                  by_cases c49 : t158 = true
                  · subst c49
                    have H1 : (some 3) = some r := by rw [if_pos rfl] at H; exact H
                    clear H
                    have H := H1
                    clear H1
                    obtain rfl := Option.some.inj H
                    go_wp2_with (first | (go_at_call 40; (with_reducible refine (galleyref02_in.calls t136 225 236 true _ A46.out).mono ?_); rintro e w' ⟨rfl, ⟨nd, rfl⟩⟩) | (go_at_call 40; (with_reducible refine (galleyref02_in.calls t137 128 191 true _ A48.out).mono ?_); rintro e w' ⟨rfl, ⟨nd, rfl⟩⟩))
                    go_ret
                    exact ⟨by first | rfl | (simp; done) | (simp [*]; done), by repeat (first | exact Drawn0.refl _ | apply Drawn0.step)⟩
                  · replace c49 := Bool.eq_false_iff.mpr c49
                    subst c49
                    have H1 : (if t136 = 237 then ((galleyref02_in.f t137 128 159).bind fun t159 => (if t159 = true then (some 3) else ((galleyref02_in.f t136 238 239).bind fun t160 => (if t160 = true then ((galleyref02_in.f t137 128 191).bind fun t161 => (if t161 = true then (some 3) else (galleyref02_Long.j1 kj8 t136 t137 t138 t139))) else (galleyref02_Long.j1 kj8 t136 t137 t138 t139))))) else ((galleyref02_in.f t136 238 239).bind fun t162 => (if t162 = true then ((galleyref02_in.f t137 128 191).bind fun t163 => (if t163 = true then (some 3) else (galleyref02_Long.j1 kj8 t136 t137 t138 t139))) else (galleyref02_Long.j1 kj8 t136 t137 t138 t139)))) = some r := by rw [if_neg (show ¬ (false = true) by decide)] at H; exact H
                    clear H
                    have H := H1
                    clear H1
                    by_cases c50 : t136 = 237
                    · rw [if_pos c50] at H
                      have c50b0 : (t136 == 237) = true := beq_iff_eq.mpr c50
                      have c50b1 : (t136 != 237) = false := bne_eq_false_iff_eq.mpr c50
                      clear c50
                      replace H := Option.bind_eq_some_iff.mp H
                      obtain ⟨t159, A510, H⟩ := H
                      replace H : (if t159 = true then (some 3) else ((galleyref02_in.f t136 238 239).bind fun t160 => (if t160 = true then ((galleyref02_in.f t137 128 191).bind fun t161 => (if t161 = true then (some 3) else (galleyref02_Long.j1 kj8 t136 t137 t138 t139))) else (galleyref02_Long.j1 kj8 t136 t137 t138 t139)))) = some r := H
                      have A51 := Aside0.mk A510
                      clear A510
                      by_cases c52 : t159 = true
                      · subst c52
                        have H1 : (some 3) = some r := by rw [if_pos rfl] at H; exact H
                        clear H
                        have H := H1
                        clear H1
                        obtain rfl := Option.some.inj H
                        go_wp2_with (first | (go_at_call 40; (with_reducible refine (galleyref02_in.calls t136 225 236 true _ A46.out).mono ?_); rintro e w' ⟨rfl, ⟨nd, rfl⟩⟩) | (go_at_call 40; (with_reducible refine (galleyref02_in.calls t137 128 191 false _ A48.out).mono ?_); rintro e w' ⟨rfl, ⟨nd, rfl⟩⟩) | (go_at_call 40; (with_reducible refine (galleyref02_in.calls t137 128 159 true _ A51.out).mono ?_); rintro e w' ⟨rfl, ⟨nd, rfl⟩⟩))
                        go_ret
                        exact ⟨by first | rfl | (simp; done) | (simp [*]; done), by repeat (first | exact Drawn0.refl _ | apply Drawn0.step)⟩
                      · replace c52 := Bool.eq_false_iff.mpr c52
                        subst c52
                        have H1 : ((galleyref02_in.f t136 238 239).bind fun t160 => (if t160 = true then ((galleyref02_in.f t137 128 191).bind fun t161 => (if t161 = true then (some 3) else (galleyref02_Long.j1 kj8 t136 t137 t138 t139))) else (galleyref02_Long.j1 kj8 t136 t137 t138 t139))) = some r := by rw [if_neg (show ¬ (false = true) by decide)] at H; exact H
                        clear H
                        have H := H1
                        clear H1
                        replace H := Option.bind_eq_some_iff.mp H
                        obtain ⟨t160, A530, H⟩ := H
                        replace H : (if t160 = true then ((galleyref02_in.f t137 128 191).bind fun t161 => (if t161 = true then (some 3) else (galleyref02_Long.j1 kj8 t136 t137 t138 t139))) else (galleyref02_Long.j1 kj8 t136 t137 t138 t139)) = some r := H
                        have A53 := Aside0.mk A530
                        clear A530
                        by_cases c54 : t160 = true
                        · subst c54
                          have H1 : ((galleyref02_in.f t137 128 191).bind fun t161 => (if t161 = true then (some 3) else (galleyref02_Long.j1 kj8 t136 t137 t138 t139))) = some r := by rw [if_pos rfl] at H; exact H
                          clear H
                          have H := H1
                          clear H1
                          replace H := Option.bind_eq_some_iff.mp H
                          obtain ⟨t161, A550, H⟩ := H
                          replace H : (if t161 = true then (some 3) else (galleyref02_Long.j1 kj8 t136 t137 t138 t139)) = some r := H
                          have A55 := Aside0.mk A550
                          clear A550
                          by_cases c56 : t161 = true
                          · subst c56
                            have H1 : (some 3) = some r := by rw [if_pos rfl] at H; exact H
                            clear H
                            have H := H1
                            clear H1
                            obtain rfl := Option.some.inj H
                            exact absurd (Option.some.inj (A55.out.symm.trans A48.out)) (by decide)
                          · replace c56 := Bool.eq_false_iff.mpr c56
                            subst c56
                            have H1 : (galleyref02_Long.j1 kj8 t136 t137 t138 t139) = some r := by rw [if_neg (show ¬ (false = true) by decide)] at H; exact H
                            clear H
                            have H := H1
                            clear H1
                            have H' := Aside0.mk H
                            clear H
                            go_wp2_with (first | (go_at_call 40; (with_reducible refine (galleyref02_in.calls t136 225 236 true _ A46.out).mono ?_); rintro e w' ⟨rfl, ⟨nd, rfl⟩⟩) | (go_at_call 40; (with_reducible refine (galleyref02_in.calls t137 128 191 false _ A48.out).mono ?_); rintro e w' ⟨rfl, ⟨nd, rfl⟩⟩) | (go_at_call 40; (with_reducible refine (galleyref02_in.calls t137 128 159 false _ A51.out).mono ?_); rintro e w' ⟨rfl, ⟨nd, rfl⟩⟩) | (go_at_call 40; (with_reducible refine (galleyref02_in.calls t136 238 239 true _ A53.out).mono ?_); rintro e w' ⟨rfl, ⟨nd, rfl⟩⟩) | (go_at_call 40; (with_reducible refine (galleyref02_in.calls t137 128 191 false _ A55.out).mono ?_); rintro e w' ⟨rfl, ⟨nd, rfl⟩⟩))
                            go_meet
                            case rel => exact ⟨_, H', ⟨by have := HJ8.out; first | omega | exact Nat.le_refl _⟩, by repeat (first | exact Drawn0.refl _ | apply Drawn0.step)⟩
                        · replace c54 := Bool.eq_false_iff.mpr c54
                          subst c54
                          have H1 : (galleyref02_Long.j1 kj8 t136 t137 t138 t139) = some r := by rw [if_neg (show ¬ (false = true) by decide)] at H; exact H
                          clear H
                          have H := H1
                          clear H1
                          have H' := Aside0.mk H
                          clear H
                          go_wp2_with (first | (go_at_call 40; (with_reducible refine (galleyref02_in.calls t136 225 236 true _ A46.out).mono ?_); rintro e w' ⟨rfl, ⟨nd, rfl⟩⟩) | (go_at_call 40; (with_reducible refine (galleyref02_in.calls t137 128 191 false _ A48.out).mono ?_); rintro e w' ⟨rfl, ⟨nd, rfl⟩⟩) | (go_at_call 40; (with_reducible refine (galleyref02_in.calls t137 128 159 false _ A51.out).mono ?_); rintro e w' ⟨rfl, ⟨nd, rfl⟩⟩) | (go_at_call 40; (with_reducible refine (galleyref02_in.calls t136 238 239 false _ A53.out).mono ?_); rintro e w' ⟨rfl, ⟨nd, rfl⟩⟩))
                          go_meet
                          case rel => exact ⟨_, H', ⟨by have := HJ8.out; first | omega | exact Nat.le_refl _⟩, by repeat (first | exact Drawn0.refl _ | apply Drawn0.step)⟩
                    · rw [if_neg c50] at H
                      have c50b0 : (t136 == 237) = false := beq_eq_false_iff_ne.mpr c50
                      have c50b1 : (t136 != 237) = true := bne_iff_ne.mpr c50
                      replace H := Option.bind_eq_some_iff.mp H
                      obtain ⟨t162, A570, H⟩ := H
                      replace H : (if t162 = true then ((galleyref02_in.f t137 128 191).bind fun t163 => (if t163 = true then (some 3) else (galleyref02_Long.j1 kj8 t136 t137 t138 t139))) else (galleyref02_Long.j1 kj8 t136 t137 t138 t139)) = some r := H
                      have A57 := Aside0.mk A570
                      clear A570
                      by_cases c58 : t162 = true
                      · subst c58
                        have H1 : ((galleyref02_in.f t137 128 191).bind fun t163 => (if t163 = true then (some 3) else (galleyref02_Long.j1 kj8 t136 t137 t138 t139))) = some r := by rw [if_pos rfl] at H; exact H
                        clear H
                        have H := H1
                        clear H1
                        replace H := Option.bind_eq_some_iff.mp H
                        obtain ⟨t163, A590, H⟩ := H
                        replace H : (if t163 = true then (some 3) else (galleyref02_Long.j1 kj8 t136 t137 t138 t139)) = some r := H
                        have A59 := Aside0.mk A590
                        clear A590
                        by_cases c60 : t163 = true
                        · subst c60
                          have H1 : (some 3) = some r := by rw [if_pos rfl] at H; exact H
                          clear H
                          have H := H1
                          clear H1
                          obtain rfl := Option.some.inj H
                          exact absurd (Option.some.inj (A59.out.symm.trans A48.out)) (by decide)
                        · replace c60 := Bool.eq_false_iff.mpr c60
                          subst c60
                          have H1 : (galleyref02_Long.j1 kj8 t136 t137 t138 t139) = some r := by rw [if_neg (show ¬ (false = true) by decide)] at H; exact H
                          clear H
                          have H := H1
                          clear H1
                          have H' := Aside0.mk H
                          clear H
                          go_wp2_with (first | (go_at_call 40; (with_reducible refine (galleyref02_in.calls t136 225 236 true _ A46.out).mono ?_); rintro e w' ⟨rfl, ⟨nd, rfl⟩⟩) | (go_at_call 40; (with_reducible refine (galleyref02_in.calls t137 128 191 false _ A48.out).mono ?_); rintro e w' ⟨rfl, ⟨nd, rfl⟩⟩) | (go_at_call 40; (with_reducible refine (galleyref02_in.calls t136 238 239 true _ A57.out).mono ?_); rintro e w' ⟨rfl, ⟨nd, rfl⟩⟩) | (go_at_call 40; (with_reducible refine (galleyref02_in.calls t137 128 191 false _ A59.out).mono ?_); rintro e w' ⟨rfl, ⟨nd, rfl⟩⟩))
                          go_meet
                          case rel => exact ⟨_, H', ⟨by have := HJ8.out; first | omega | exact Nat.le_refl _⟩, by repeat (first | exact Drawn0.refl _ | apply Drawn0.step)⟩
                      · replace c58 := Bool.eq_false_iff.mpr c58
                        subst c58
                        have H1 : (galleyref02_Long.j1 kj8 t136 t137 t138 t139) = some r := by rw [if_neg (show ¬ (false = true) by decide)] at H; exact H
                        clear H
                        have H := H1
                        clear H1
                        have H' := Aside0.mk H
                        clear H
                        go_wp2_with (first | (go_at_call 40; (with_reducible refine (galleyref02_in.calls t136 225 236 true _ A46.out).mono ?_); rintro e w' ⟨rfl, ⟨nd, rfl⟩⟩) | (go_at_call 40; (with_reducible refine (galleyref02_in.calls t137 128 191 false _ A48.out).mono ?_); rintro e w' ⟨rfl, ⟨nd, rfl⟩⟩) | (go_at_call 40; (with_reducible refine (galleyref02_in.calls t136 238 239 false _ A57.out).mono ?_); rintro e w' ⟨rfl, ⟨nd, rfl⟩⟩))
                        go_meet
                        case rel => exact ⟨_, H', ⟨by have := HJ8.out; first | omega | exact Nat.le_refl _⟩, by repeat (first | exact Drawn0.refl _ | apply Drawn0.step)⟩
                · replace c47 := Bool.eq_false_iff.mpr c47
                  subst c47
                  have H1 : (if t136 = 237 then ((galleyref02_in.f t137 128 159).bind fun t164 => (if t164 = true then (some 3) else ((galleyref02_in.f t136 238 239).bind fun t165 => (if t165 = true then ((galleyref02_in.f t137 128 191).bind fun t166 => (if t166 = true then (some 3) else (galleyref02_Long.j1 kj8 t136 t137 t138 t139))) else (galleyref02_Long.j1 kj8 t136 t137 t138 t139))))) else ((galleyref02_in.f t136 238 239).bind fun t167 => (if t167 = true then ((galleyref02_in.f t137 128 191).bind fun t168 => (if t168 = true then (some 3) else (galleyref02_Long.j1 kj8 t136 t137 t138 t139))) else (galleyref02_Long.j1 kj8 t136 t137 t138 t139)))) = some r := by rw [if_neg (show ¬ (false = true) by decide)] at H; exact H
                  clear H
                  have H := H1
                  clear H1
                  by_cases c61 : t136 = 237
                  · rw [if_pos c61] at H
                    have c61b0 : (t136 == 237) = true := beq_iff_eq.mpr c61
                    have c61b1 : (t136 != 237) = false := bne_eq_false_iff_eq.mpr c61
                    clear c61
                    replace H := Option.bind_eq_some_iff.mp H
                    obtain ⟨t164, A620, H⟩ := H
                    replace H : (if t164 = true then (some 3) else ((galleyref02_in.f t136 238 239).bind fun t165 => (if t165 = true then ((galleyref02_in.f t137 128 191).bind fun t166 => (if t166 = true then (some 3) else (galleyref02_Long.j1 kj8 t136 t137 t138 t139))) else (galleyref02_Long.j1 kj8 t136 t137 t138 t139)))) = some r := H
                    have A62 := Aside0.mk A620
                    clear A620
                    by_cases c63 : t164 = true
                    · subst c63
                      have H1 : (some 3) = some r := by rw [if_pos rfl] at H; exact H
                      clear H
                      have H := H1
                      clear H1
                      obtain rfl := Option.some.inj H
                      go_wp2_with (first | (go_at_call 40; (with_reducible refine (galleyref02_in.calls t136 225 236 false _ A46.out).mono ?_); rintro e w' ⟨rfl, ⟨nd, rfl⟩⟩) | (go_at_call 40; (with_reducible refine (galleyref02_in.calls t137 128 159 true _ A62.out).mono ?_); rintro e w' ⟨rfl, ⟨nd, rfl⟩⟩))
                      go_ret
                      exact ⟨by first | rfl | (simp; done) | (simp [*]; done), by repeat (first | exact Drawn0.refl _ | apply Drawn0.step)⟩
                    · replace c63 := Bool.eq_false_iff.mpr c63
                      subst c63
                      have H1 : ((galleyref02_in.f t136 238 239).bind fun t165 => (if t165 = true then ((galleyref02_in.f t137 128 191).bind fun t166 => (if t166 = true then (some 3) else (galleyref02_Long.j1 kj8 t136 t137 t138 t139))) else (galleyref02_Long.j1 kj8 t136 t137 t138 t139))) = some r := by rw [if_neg (show ¬ (false = true) by decide)] at H; exact H
                      clear H
                      have H := H1
                      clear H1
                      replace H := Option.bind_eq_some_iff.mp H
                      obtain ⟨t165, A640, H⟩ := H
                      replace H : (if t165 = true then ((galleyref02_in.f t137 128 191).bind fun t166 => (if t166 = true then (some 3) else (galleyref02_Long.j1 kj8 t136 t137 t138 t139))) else (galleyref02_Long.j1 kj8 t136 t137 t138 t139)) = some r := H
                      have A64 := Aside0.mk A640
                      clear A640
                      by_cases c65 : t165 = true
                      · subst c65
                        have H1 : ((galleyref02_in.f t137 128 191).bind fun t166 => (if t166 = true then (some 3) else (galleyref02_Long.j1 kj8 t136 t137 t138 t139))) = some r := by rw [if_pos rfl] at H; exact H
                        clear H
                        have H := H1
                        clear H1
                        replace H := Option.bind_eq_some_iff.mp H
                        obtain ⟨t166, A660, H⟩ := H
                        replace H : (if t166 = true then (some 3) else (galleyref02_Long.j1 kj8 t136 t137 t138 t139)) = some r := H
                        have A66 := Aside0.mk A660
                        clear A660
                        by_cases c67 : t166 = true
                        · subst c67
                          have H1 : (some 3) = some r := by rw [if_pos rfl] at H; exact H
                          clear H
                          have H := H1
                          clear H1
                          obtain rfl := Option.some.inj H
                          go_wp2_with (first | (go_at_call 40; (with_reducible refine (galleyref02_in.calls t136 225 236 false _ A46.out).mono ?_); rintro e w' ⟨rfl, ⟨nd, rfl⟩⟩) | (go_at_call 40; (with_reducible refine (galleyref02_in.calls t137 128 159 false _ A62.out).mono ?_); rintro e w' ⟨rfl, ⟨nd, rfl⟩⟩) | (go_at_call 40; (with_reducible refine (galleyref02_in.calls t136 238 239 true _ A64.out).mono ?_); rintro e w' ⟨rfl, ⟨nd, rfl⟩⟩) | (go_at_call 40; (with_reducible refine (galleyref02_in.calls t137 128 191 true _ A66.out).mono ?_); rintro e w' ⟨rfl, ⟨nd, rfl⟩⟩))
                          go_ret
                          exact ⟨by first | rfl | (simp; done) | (simp [*]; done), by repeat (first | exact Drawn0.refl _ | apply Drawn0.step)⟩
                        · replace c67 := Bool.eq_false_iff.mpr c67
                          subst c67
                          have H1 : (galleyref02_Long.j1 kj8 t136 t137 t138 t139) = some r := by rw [if_neg (show ¬ (false = true) by decide)] at H; exact H
                          clear H
                          have H := H1
                          clear H1
                          have H' := Aside0.mk H
                          clear H
                          go_wp2_with (first | (go_at_call 40; (with_reducible refine (galleyref02_in.calls t136 225 236 false _ A46.out).mono ?_); rintro e w' ⟨rfl, ⟨nd, rfl⟩⟩) | (go_at_call 40; (with_reducible refine (galleyref02_in.calls t137 128 159 false _ A62.out).mono ?_); rintro e w' ⟨rfl, ⟨nd, rfl⟩⟩) | (go_at_call 40; (with_reducible refine (galleyref02_in.calls t136 238 239 true _ A64.out).mono ?_); rintro e w' ⟨rfl, ⟨nd, rfl⟩⟩) | (go_at_call 40; (with_reducible refine (galleyref02_in.calls t137 128 191 false _ A66.out).mono ?_); rintro e w' ⟨rfl, ⟨nd, rfl⟩⟩))
                          go_meet
                          case rel => exact ⟨_, H', ⟨by have := HJ8.out; first | omega | exact Nat.le_refl _⟩, by repeat (first | exact Drawn0.refl _ | apply Drawn0.step)⟩
                      · replace c65 := Bool.eq_false_iff.mpr c65
                        subst c65
                        have H1 : (galleyref02_Long.j1 kj8 t136 t137 t138 t139) = some r := by rw [if_neg (show ¬ (false = true) by decide)] at H; exact H
                        clear H
                        have H := H1
                        clear H1
                        have H' := Aside0.mk H
                        clear H
                        go_wp2_with (first | (go_at_call 40; (with_reducible refine (galleyref02_in.calls t136 225 236 false _ A46.out).mono ?_); rintro e w' ⟨rfl, ⟨nd, rfl⟩⟩) | (go_at_call 40; (with_reducible refine (galleyref02_in.calls t137 128 159 false _ A62.out).mono ?_); rintro e w' ⟨rfl, ⟨nd, rfl⟩⟩) | (go_at_call 40; (with_reducible refine (galleyref02_in.calls t136 238 239 false _ A64.out).mono ?_); rintro e w' ⟨rfl, ⟨nd, rfl⟩⟩))
                        go_meet
                        case rel => exact ⟨_, H', ⟨by have := HJ8.out; first | omega | exact Nat.le_refl _⟩, by repeat (first | exact Drawn0.refl _ | apply Drawn0.step)⟩
                  · rw [if_neg c61] at H
                    have c61b0 : (t136 == 237) = false := beq_eq_false_iff_ne.mpr c61
                    have c61b1 : (t136 != 237) = true := bne_iff_ne.mpr c61
                    replace H := Option.bind_eq_some_iff.mp H
                    obtain ⟨t167, A680, H⟩ := H
                    replace H : (if t167 = true then ((galleyref02_in.f t137 128 191).bind fun t168 => (if t168 = true then (some 3) else (galleyref02_Long.j1 kj8 t136 t137 t138 t139))) else (galleyref02_Long.j1 kj8 t136 t137 t138 t139)) = some r := H
                    have A68 := Aside0.mk A680
                    clear A680
                    by_cases c69 : t167 = true
                    · subst c69
                      have H1 : ((galleyref02_in.f t137 128 191).bind fun t168 => (if t168 = true then (some 3) else (galleyref02_Long.j1 kj8 t136 t137 t138 t139))) = some r := by rw [if_pos rfl] at H; exact H
                      clear H
                      have H := H1
                      clear H1
                      replace H := Option.bind_eq_some_iff.mp H
                      obtain ⟨t168, A700, H⟩ := H
                      replace H : (if t168 = true then (some 3) else (galleyref02_Long.j1 kj8 t136 t137 t138 t139)) = some r := H
                      have A70 := Aside0.mk A700
                      clear A700
                      by_cases c71 : t168 = true
                      · subst c71
                        have H1 : (some 3) = some r := by rw [if_pos rfl] at H; exact H
                        clear H
                        have H := H1
                        clear H1
                        obtain rfl := Option.some.inj H
                        go_wp2_with (first | (go_at_call 40; (with_reducible refine (galleyref02_in.calls t136 225 236 false _ A46.out).mono ?_); rintro e w' ⟨rfl, ⟨nd, rfl⟩⟩) | (go_at_call 40; (with_reducible refine (galleyref02_in.calls t136 238 239 true _ A68.out).mono ?_); rintro e w' ⟨rfl, ⟨nd, rfl⟩⟩) | (go_at_call 40; (with_reducible refine (galleyref02_in.calls t137 128 191 true _ A70.out).mono ?_); rintro e w' ⟨rfl, ⟨nd, rfl⟩⟩))
                        go_ret
                        exact ⟨by first | rfl | (simp; done) | (simp [*]; done), by repeat (first | exact Drawn0.refl _ | apply Drawn0.step)⟩
                      · replace c71 := Bool.eq_false_iff.mpr c71
                        subst c71
                        have H1 : (galleyref02_Long.j1 kj8 t136 t137 t138 t139) = some r := by rw [if_neg (show ¬ (false = true) by decide)] at H; exact H
                        clear H
                        have H := H1
                        clear H1
                        have H' := Aside0.mk H
                        clear H
                        go_wp2_with (first | (go_at_call 40; (with_reducible refine (galleyref02_in.calls t136 225 236 false _ A46.out).mono ?_); rintro e w' ⟨rfl, ⟨nd, rfl⟩⟩) | (go_at_call 40; (with_reducible refine (galleyref02_in.calls t136 238 239 true _ A68.out).mono ?_); rintro e w' ⟨rfl, ⟨nd, rfl⟩⟩) | (go_at_call 40; (with_reducible refine (galleyref02_in.calls t137 128 191 false _ A70.out).mono ?_); rintro e w' ⟨rfl, ⟨nd, rfl⟩⟩))
                        go_meet
                        case rel => exact ⟨_, H', ⟨by have := HJ8.out; first | omega | exact Nat.le_refl _⟩, by repeat (first | exact Drawn0.refl _ | apply Drawn0.step)⟩
                    · replace c69 := Bool.eq_false_iff.mpr c69
                      subst c69
                      have H1 : (galleyref02_Long.j1 kj8 t136 t137 t138 t139) = some r := by rw [if_neg (show ¬ (false = true) by decide)] at H; exact H
                      clear H
                      have H := H1
                      clear H1
                      have H' := Aside0.mk H
                      clear H
                      go_wp2_with (first | (go_at_call 40; (with_reducible refine (galleyref02_in.calls t136 225 236 false _ A46.out).mono ?_); rintro e w' ⟨rfl, ⟨nd, rfl⟩⟩) | (go_at_call 40; (with_reducible refine (galleyref02_in.calls t136 238 239 false _ A68.out).mono ?_); rintro e w' ⟨rfl, ⟨nd, rfl⟩⟩))
                      go_meet
                      case rel => exact ⟨_, H', ⟨by have := HJ8.out; first | omega | exact Nat.le_refl _⟩, by repeat (first | exact Drawn0.refl _ | apply Drawn0.step)⟩
            · replace c16 := Bool.eq_false_iff.mpr c16
              subst c16
              have H1 : (galleyref02_Long.j1 kj8 t136 t137 t138 t139) = some r := by rw [if_neg (show ¬ (false = true) by decide)] at H; exact H
              clear H
              have H := H1
              clear H1
              have H' := Aside0.mk H
              clear H
              go_wp2
              go_meet
              case rel => exact ⟨_, H', ⟨by have := HJ8.out; first | omega | exact Nat.le_refl _⟩, by repeat (first | exact Drawn0.refl _ | apply Drawn0.step)⟩
          case rest =>
            clear HC15
            try clear c1
            try clear c2
            try clear p2
            try clear c3
            try clear c4
            try clear c5
            try clear c6
            try clear c7
            try clear c16
            try clear c17
            try clear c17b0
            try clear c17b1
            try clear c19
            try clear c21
            try clear c23
            try clear c24
            try clear c24b0
            try clear c24b1
            try clear c26
            try clear c28
            try clear c30
            try clear c32
            try clear c34
            try clear c35
            try clear c35b0
            try clear c35b1
            try clear c37
            try clear c39
            try clear c41
            try clear c43
            try clear c45
            try clear c47
            try clear c49
            try clear c50
            try clear c50b0
            try clear c50b1
            try clear c52
            try clear c54
            try clear c56
            try clear c58
            try clear c60
            try clear c61
            try clear c61b0
            try clear c61b1
            try clear c63
            try clear c65
            try clear c67
            try clear c69
            try clear c71
            obtain ⟨kq, HA, HJ14, ⟨mc14, rfl⟩⟩ := hcut
            cases kq with
            | zero => exact absurd HA.out (by simp [galleyref02_Long.j1])
            | succ kj14 =>
              have H := HA.out
              clear HA
              simp only [galleyref02_Long.j1] at H
              have HC72 := Aside0.mk H
              clear H
              go_upto_region 9 with (fail)
              go_cut [69] (fun v69 wc => ∃ (kq : Nat) (x69_71 : Bool), v69 = .bool x69_71 ∧ Aside0 (galleyref02_Long.j2 kq t136 t137 x69_71 = some r) ∧ Aside0 (kq ≤ kj14) ∧ Drawn0 w wc)
              case first =>
                have H := HC72.out
                clear HC72
                replace H := Option.bind_eq_some_iff.mp H
                obtain ⟨t169, A730, H⟩ := H
                replace H : (if t169 = true then ((galleyref02_in.f t139 128 191).bind fun t170 => (galleyref02_Long.j2 kj14 t136 t137 t170)) else (galleyref02_Long.j2 kj14 t136 t137 false)) = some r := H
                have A73 := Aside0.mk A730
                clear A730
                by_cases c74 : t169 = true
                · subst c74
                  have H1 : ((galleyref02_in.f t139 128 191).bind fun t170 => (galleyref02_Long.j2 kj14 t136 t137 t170)) = some r := by rw [if_pos rfl] at H; exact H
                  clear H
                  have H := H1
                  clear H1
                  replace H := Option.bind_eq_some_iff.mp H
                  obtain ⟨t170, A750, H⟩ := H
                  replace H : (galleyref02_Long.j2 kj14 t136 t137 t170) = some r := H
                  have A75 := Aside0.mk A750
                  clear A750
                  have H' := Aside0.mk H
                  clear H
                  go_wp2_with (first | ((with_reducible refine gate_callee (f := 40) rfl ?_); refine goesL_ (some 65) rfl rfl Tryd.func40 (by kernel_rfl) rfl #[.int .i64 t138, .int .i64 128, .int .i64 191] rfl (by (try simp only [List.map_toArray, List.map_cons, List.map_nil]); first | done | rfl | (simp only [List.length_drop, List.length_take]; rfl)) ?_; (with_reducible refine (galleyref02_in.calls t138 128 191 true _ A73.out).mono ?_); rintro e w' ⟨rfl, ⟨nd, rfl⟩⟩; refine ⟨_, rfl, ?_⟩) | (go_at_call 40; (with_reducible refine (galleyref02_in.calls t139 128 191 t170 _ A75.out).mono ?_); rintro e w' ⟨rfl, ⟨nd, rfl⟩⟩))
                  go_meet
                  case rel => exact ⟨_, (t170), (by first | rfl | (simp; done) | (simp [*]; done)), H', ⟨by have := HJ8.out; have := HJ14.out; first | omega | exact Nat.le_refl _⟩, by repeat (first | exact Drawn0.refl _ | apply Drawn0.step)⟩
                · replace c74 := Bool.eq_false_iff.mpr c74
                  subst c74
                  have H1 : (galleyref02_Long.j2 kj14 t136 t137 false) = some r := by rw [if_neg (show ¬ (false = true) by decide)] at H; exact H
                  clear H
                  have H := H1
                  clear H1
                  have H' := Aside0.mk H
                  clear H
                  go_wp2_with (first | ((with_reducible refine gate_callee (f := 40) rfl ?_); refine goesL_ (some 65) rfl rfl Tryd.func40 (by kernel_rfl) rfl #[.int .i64 t138, .int .i64 128, .int .i64 191] rfl (by (try simp only [List.map_toArray, List.map_cons, List.map_nil]); first | done | rfl | (simp only [List.length_drop, List.length_take]; rfl)) ?_; (with_reducible refine (galleyref02_in.calls t138 128 191 false _ A73.out).mono ?_); rintro e w' ⟨rfl, ⟨nd, rfl⟩⟩; refine ⟨_, rfl, ?_⟩))
                  go_meet
                  case rel => exact ⟨_, (false), (by first | rfl | (simp; done) | (simp [*]; done)), H', ⟨by have := HJ8.out; have := HJ14.out; first | omega | exact Nat.le_refl _⟩, by repeat (first | exact Drawn0.refl _ | apply Drawn0.step)⟩
              case rest =>
                clear HC72
                try clear c1
                try clear c2
                try clear p2
                try clear c3
                try clear c4
                try clear c5
                try clear c6
                try clear c7
                try clear c14
                try clear c16
                try clear c17
                try clear c17b0
                try clear c17b1
                try clear c19
                try clear c21
                try clear c23
                try clear c24
                try clear c24b0
                try clear c24b1
                try clear c26
                try clear c28
                try clear c30
                try clear c32
                try clear c34
                try clear c35
                try clear c35b0
                try clear c35b1
                try clear c37
                try clear c39
                try clear c40
                try clear c41
                try clear c43
                try clear c45
                try clear c47
                try clear c49
                try clear c50
                try clear c50b0
                try clear c50b1
                try clear c52
                try clear c54
                try clear c56
                try clear c58
                try clear c60
                try clear c61
                try clear c61b0
                try clear c61b1
                try clear c63
                try clear c65
                try clear c67
                try clear c69
                try clear c71
                try clear c74
                try clear p2
                obtain ⟨kq, x69_71, rfl, HA, HJ71, ⟨mc71, rfl⟩⟩ := hcut
                cases kq with
                | zero => exact absurd HA.out (by simp [galleyref02_Long.j2])
                | succ kj71 =>
                  have H := HA.out
                  clear HA
                  simp only [galleyref02_Long.j2] at H
                  by_cases c76 : x69_71 = true
                  · subst c76
                    have H1 : (if t136 = 240 then ((galleyref02_in.f t137 144 191).bind fun t171 => (if t171 = true then (some 4) else ((galleyref02_in.f t136 241 243).bind fun t172 => (if t172 = true then ((galleyref02_in.f t137 128 191).bind fun t173 => (if t173 = true then (some 4) else (if t136 = 244 then ((galleyref02_in.f t137 128 143).bind fun t174 => (if t174 = true then (some 4) else (some 0))) else (some 0)))) else (if t136 = 244 then ((galleyref02_in.f t137 128 143).bind fun t175 => (if t175 = true then (some 4) else (some 0))) else (some 0)))))) else ((galleyref02_in.f t136 241 243).bind fun t176 => (if t176 = true then ((galleyref02_in.f t137 128 191).bind fun t177 => (if t177 = true then (some 4) else (if t136 = 244 then ((galleyref02_in.f t137 128 143).bind fun t178 => (if t178 = true then (some 4) else (some 0))) else (some 0)))) else (if t136 = 244 then ((galleyref02_in.f t137 128 143).bind fun t179 => (if t179 = true then (some 4) else (some 0))) else (some 0))))) = some r := by rw [if_pos rfl] at H; exact H
                    clear H
                    have H := H1
                    clear H1
                    by_cases c77 : t136 = 240
                    · rw [if_pos c77] at H
                      have c77b0 : (t136 == 240) = true := beq_iff_eq.mpr c77
                      have c77b1 : (t136 != 240) = false := bne_eq_false_iff_eq.mpr c77
                      clear c77
                      replace H := Option.bind_eq_some_iff.mp H
                      obtain ⟨t171, A780, H⟩ := H
                      replace H : (if t171 = true then (some 4) else ((galleyref02_in.f t136 241 243).bind fun t172 => (if t172 = true then ((galleyref02_in.f t137 128 191).bind fun t173 => (if t173 = true then (some 4) else (if t136 = 244 then ((galleyref02_in.f t137 128 143).bind fun t174 => (if t174 = true then (some 4) else (some 0))) else (some 0)))) else (if t136 = 244 then ((galleyref02_in.f t137 128 143).bind fun t175 => (if t175 = true then (some 4) else (some 0))) else (some 0))))) = some r := H
                      have A78 := Aside0.mk A780
                      clear A780
                      by_cases c79 : t171 = true
                      · subst c79
                        have H1 : (some 4) = some r := by rw [if_pos rfl] at H; exact H
                        clear H
                        have H := H1
                        clear H1
                        obtain rfl := Option.some.inj H
                        go_wp2_with (first | (go_at_call 40; (with_reducible refine (galleyref02_in.calls t137 144 191 true _ A78.out).mono ?_); rintro e w' ⟨rfl, ⟨nd, rfl⟩⟩))
                        go_ret
                        exact ⟨by first | rfl | (simp; done) | (simp [*]; done), by repeat (first | exact Drawn0.refl _ | apply Drawn0.step)⟩
                      · replace c79 := Bool.eq_false_iff.mpr c79
                        subst c79
                        have H1 : ((galleyref02_in.f t136 241 243).bind fun t172 => (if t172 = true then ((galleyref02_in.f t137 128 191).bind fun t173 => (if t173 = true then (some 4) else (if t136 = 244 then ((galleyref02_in.f t137 128 143).bind fun t174 => (if t174 = true then (some 4) else (some 0))) else (some 0)))) else (if t136 = 244 then ((galleyref02_in.f t137 128 143).bind fun t175 => (if t175 = true then (some 4) else (some 0))) else (some 0)))) = some r := by rw [if_neg (show ¬ (false = true) by decide)] at H; exact H
                        clear H
                        have H := H1
                        clear H1
                        replace H := Option.bind_eq_some_iff.mp H
                        obtain ⟨t172, A800, H⟩ := H
                        replace H : (if t172 = true then ((galleyref02_in.f t137 128 191).bind fun t173 => (if t173 = true then (some 4) else (if t136 = 244 then ((galleyref02_in.f t137 128 143).bind fun t174 => (if t174 = true then (some 4) else (some 0))) else (some 0)))) else (if t136 = 244 then ((galleyref02_in.f t137 128 143).bind fun t175 => (if t175 = true then (some 4) else (some 0))) else (some 0))) = some r := H
                        have A80 := Aside0.mk A800
                        clear A800
                        by_cases c81 : t172 = true
                        · subst c81
                          have H1 : ((galleyref02_in.f t137 128 191).bind fun t173 => (if t173 = true then (some 4) else (if t136 = 244 then ((galleyref02_in.f t137 128 143).bind fun t174 => (if t174 = true then (some 4) else (some 0))) else (some 0)))) = some r := by rw [if_pos rfl] at H; exact H
                          clear H
                          have H := H1
                          clear H1
                          replace H := Option.bind_eq_some_iff.mp H
                          obtain ⟨t173, A820, H⟩ := H
                          replace H : (if t173 = true then (some 4) else (if t136 = 244 then ((galleyref02_in.f t137 128 143).bind fun t174 => (if t174 = true then (some 4) else (some 0))) else (some 0))) = some r := H
                          have A82 := Aside0.mk A820
                          clear A820
                          by_cases c83 : t173 = true
                          · subst c83
                            have H1 : (some 4) = some r := by rw [if_pos rfl] at H; exact H
                            clear H
                            have H := H1
                            clear H1
                            obtain rfl := Option.some.inj H
                            go_wp2_with (first | (go_at_call 40; (with_reducible refine (galleyref02_in.calls t137 144 191 false _ A78.out).mono ?_); rintro e w' ⟨rfl, ⟨nd, rfl⟩⟩) | (go_at_call 40; (with_reducible refine (galleyref02_in.calls t136 241 243 true _ A80.out).mono ?_); rintro e w' ⟨rfl, ⟨nd, rfl⟩⟩) | (go_at_call 40; (with_reducible refine (galleyref02_in.calls t137 128 191 true _ A82.out).mono ?_); rintro e w' ⟨rfl, ⟨nd, rfl⟩⟩))
                            go_ret
                            exact ⟨by first | rfl | (simp; done) | (simp [*]; done), by repeat (first | exact Drawn0.refl _ | apply Drawn0.step)⟩
                          · replace c83 := Bool.eq_false_iff.mpr c83
                            subst c83
                            have H1 : (if t136 = 244 then ((galleyref02_in.f t137 128 143).bind fun t174 => (if t174 = true then (some 4) else (some 0))) else (some 0)) = some r := by rw [if_neg (show ¬ (false = true) by decide)] at H; exact H
                            clear H
                            have H := H1
                            clear H1
                            by_cases c84 : t136 = 244
                            · rw [if_pos c84] at H
                              have c84b0 : (t136 == 244) = true := beq_iff_eq.mpr c84
                              have c84b1 : (t136 != 244) = false := bne_eq_false_iff_eq.mpr c84
                              clear c84
                              replace H := Option.bind_eq_some_iff.mp H
                              obtain ⟨t174, A850, H⟩ := H
                              replace H : (if t174 = true then (some 4) else (some 0)) = some r := H
                              have A85 := Aside0.mk A850
                              clear A850
                              by_cases c86 : t174 = true
                              · subst c86
                                have H1 : (some 4) = some r := by rw [if_pos rfl] at H; exact H
                                clear H
                                have H := H1
                                clear H1
                                obtain rfl := Option.some.inj H
                                go_wp2_with (first | (go_at_call 40; (with_reducible refine (galleyref02_in.calls t137 144 191 false _ A78.out).mono ?_); rintro e w' ⟨rfl, ⟨nd, rfl⟩⟩) | (go_at_call 40; (with_reducible refine (galleyref02_in.calls t136 241 243 true _ A80.out).mono ?_); rintro e w' ⟨rfl, ⟨nd, rfl⟩⟩) | (go_at_call 40; (with_reducible refine (galleyref02_in.calls t137 128 191 false _ A82.out).mono ?_); rintro e w' ⟨rfl, ⟨nd, rfl⟩⟩) | (go_at_call 40; (with_reducible refine (galleyref02_in.calls t137 128 143 true _ A85.out).mono ?_); rintro e w' ⟨rfl, ⟨nd, rfl⟩⟩))
                                go_ret
                                exact ⟨by first | rfl | (simp; done) | (simp [*]; done), by repeat (first | exact Drawn0.refl _ | apply Drawn0.step)⟩
                              · replace c86 := Bool.eq_false_iff.mpr c86
                                subst c86
                                have H1 : (some 0) = some r := by rw [if_neg (show ¬ (false = true) by decide)] at H; exact H
                                clear H
                                have H := H1
                                clear H1
                                obtain rfl := Option.some.inj H
                                go_wp2_with (first | (go_at_call 40; (with_reducible refine (galleyref02_in.calls t137 144 191 false _ A78.out).mono ?_); rintro e w' ⟨rfl, ⟨nd, rfl⟩⟩) | (go_at_call 40; (with_reducible refine (galleyref02_in.calls t136 241 243 true _ A80.out).mono ?_); rintro e w' ⟨rfl, ⟨nd, rfl⟩⟩) | (go_at_call 40; (with_reducible refine (galleyref02_in.calls t137 128 191 false _ A82.out).mono ?_); rintro e w' ⟨rfl, ⟨nd, rfl⟩⟩) | (go_at_call 40; (with_reducible refine (galleyref02_in.calls t137 128 143 false _ A85.out).mono ?_); rintro e w' ⟨rfl, ⟨nd, rfl⟩⟩))
                                go_ret
                                exact ⟨by first | rfl | (simp; done) | (simp [*]; done), by repeat (first | exact Drawn0.refl _ | apply Drawn0.step)⟩
                            · rw [if_neg c84] at H
                              have c84b0 : (t136 == 244) = false := beq_eq_false_iff_ne.mpr c84
                              have c84b1 : (t136 != 244) = true := bne_iff_ne.mpr c84
                              obtain rfl := Option.some.inj H
                              go_wp2_with (first | (go_at_call 40; (with_reducible refine (galleyref02_in.calls t137 144 191 false _ A78.out).mono ?_); rintro e w' ⟨rfl, ⟨nd, rfl⟩⟩) | (go_at_call 40; (with_reducible refine (galleyref02_in.calls t136 241 243 true _ A80.out).mono ?_); rintro e w' ⟨rfl, ⟨nd, rfl⟩⟩) | (go_at_call 40; (with_reducible refine (galleyref02_in.calls t137 128 191 false _ A82.out).mono ?_); rintro e w' ⟨rfl, ⟨nd, rfl⟩⟩))
                              go_ret
                              exact ⟨by first | rfl | (simp; done) | (simp [*]; done), by repeat (first | exact Drawn0.refl _ | apply Drawn0.step)⟩
                        · replace c81 := Bool.eq_false_iff.mpr c81
                          subst c81
                          have H1 : (if t136 = 244 then ((galleyref02_in.f t137 128 143).bind fun t175 => (if t175 = true then (some 4) else (some 0))) else (some 0)) = some r := by rw [if_neg (show ¬ (false = true) by decide)] at H; exact H
                          clear H
                          have H := H1
                          clear H1
                          by_cases c87 : t136 = 244
                          · rw [if_pos c87] at H
                            have c87b0 : (t136 == 244) = true := beq_iff_eq.mpr c87
                            have c87b1 : (t136 != 244) = false := bne_eq_false_iff_eq.mpr c87
                            clear c87
                            replace H := Option.bind_eq_some_iff.mp H
                            obtain ⟨t175, A880, H⟩ := H
                            replace H : (if t175 = true then (some 4) else (some 0)) = some r := H
                            have A88 := Aside0.mk A880
                            clear A880
                            by_cases c89 : t175 = true
                            · subst c89
                              have H1 : (some 4) = some r := by rw [if_pos rfl] at H; exact H
                              clear H
                              have H := H1
                              clear H1
                              obtain rfl := Option.some.inj H
                              go_wp2_with (first | (go_at_call 40; (with_reducible refine (galleyref02_in.calls t137 144 191 false _ A78.out).mono ?_); rintro e w' ⟨rfl, ⟨nd, rfl⟩⟩) | (go_at_call 40; (with_reducible refine (galleyref02_in.calls t136 241 243 false _ A80.out).mono ?_); rintro e w' ⟨rfl, ⟨nd, rfl⟩⟩) | (go_at_call 40; (with_reducible refine (galleyref02_in.calls t137 128 143 true _ A88.out).mono ?_); rintro e w' ⟨rfl, ⟨nd, rfl⟩⟩))
                              go_ret
                              exact ⟨by first | rfl | (simp; done) | (simp [*]; done), by repeat (first | exact Drawn0.refl _ | apply Drawn0.step)⟩
                            · replace c89 := Bool.eq_false_iff.mpr c89
                              subst c89
                              have H1 : (some 0) = some r := by rw [if_neg (show ¬ (false = true) by decide)] at H; exact H
                              clear H
                              have H := H1
                              clear H1
                              obtain rfl := Option.some.inj H
                              go_wp2_with (first | (go_at_call 40; (with_reducible refine (galleyref02_in.calls t137 144 191 false _ A78.out).mono ?_); rintro e w' ⟨rfl, ⟨nd, rfl⟩⟩) | (go_at_call 40; (with_reducible refine (galleyref02_in.calls t136 241 243 false _ A80.out).mono ?_); rintro e w' ⟨rfl, ⟨nd, rfl⟩⟩) | (go_at_call 40; (with_reducible refine (galleyref02_in.calls t137 128 143 false _ A88.out).mono ?_); rintro e w' ⟨rfl, ⟨nd, rfl⟩⟩))
                              go_ret
                              exact ⟨by first | rfl | (simp; done) | (simp [*]; done), by repeat (first | exact Drawn0.refl _ | apply Drawn0.step)⟩
                          · rw [if_neg c87] at H
                            have c87b0 : (t136 == 244) = false := beq_eq_false_iff_ne.mpr c87
                            have c87b1 : (t136 != 244) = true := bne_iff_ne.mpr c87
                            obtain rfl := Option.some.inj H
                            go_wp2_with (first | (go_at_call 40; (with_reducible refine (galleyref02_in.calls t137 144 191 false _ A78.out).mono ?_); rintro e w' ⟨rfl, ⟨nd, rfl⟩⟩) | (go_at_call 40; (with_reducible refine (galleyref02_in.calls t136 241 243 false _ A80.out).mono ?_); rintro e w' ⟨rfl, ⟨nd, rfl⟩⟩))
                            go_ret
                            exact ⟨by first | rfl | (simp; done) | (simp [*]; done), by repeat (first | exact Drawn0.refl _ | apply Drawn0.step)⟩
                    · rw [if_neg c77] at H
                      have c77b0 : (t136 == 240) = false := beq_eq_false_iff_ne.mpr c77
                      have c77b1 : (t136 != 240) = true := bne_iff_ne.mpr c77
                      replace H := Option.bind_eq_some_iff.mp H
                      obtain ⟨t176, A900, H⟩ := H
                      replace H : (if t176 = true then ((galleyref02_in.f t137 128 191).bind fun t177 => (if t177 = true then (some 4) else (if t136 = 244 then ((galleyref02_in.f t137 128 143).bind fun t178 => (if t178 = true then (some 4) else (some 0))) else (some 0)))) else (if t136 = 244 then ((galleyref02_in.f t137 128 143).bind fun t179 => (if t179 = true then (some 4) else (some 0))) else (some 0))) = some r := H
                      have A90 := Aside0.mk A900
                      clear A900
                      by_cases c91 : t176 = true
                      · subst c91
                        have H1 : ((galleyref02_in.f t137 128 191).bind fun t177 => (if t177 = true then (some 4) else (if t136 = 244 then ((galleyref02_in.f t137 128 143).bind fun t178 => (if t178 = true then (some 4) else (some 0))) else (some 0)))) = some r := by rw [if_pos rfl] at H; exact H
                        clear H
                        have H := H1
                        clear H1
                        replace H := Option.bind_eq_some_iff.mp H
                        obtain ⟨t177, A920, H⟩ := H
                        replace H : (if t177 = true then (some 4) else (if t136 = 244 then ((galleyref02_in.f t137 128 143).bind fun t178 => (if t178 = true then (some 4) else (some 0))) else (some 0))) = some r := H
                        have A92 := Aside0.mk A920
                        clear A920
                        by_cases c93 : t177 = true
                        · subst c93
                          have H1 : (some 4) = some r := by rw [if_pos rfl] at H; exact H
                          clear H
                          have H := H1
                          clear H1
                          obtain rfl := Option.some.inj H
                          go_wp2_with (first | (go_at_call 40; (with_reducible refine (galleyref02_in.calls t136 241 243 true _ A90.out).mono ?_); rintro e w' ⟨rfl, ⟨nd, rfl⟩⟩) | (go_at_call 40; (with_reducible refine (galleyref02_in.calls t137 128 191 true _ A92.out).mono ?_); rintro e w' ⟨rfl, ⟨nd, rfl⟩⟩))
                          go_ret
                          exact ⟨by first | rfl | (simp; done) | (simp [*]; done), by repeat (first | exact Drawn0.refl _ | apply Drawn0.step)⟩
                        · replace c93 := Bool.eq_false_iff.mpr c93
                          subst c93
                          have H1 : (if t136 = 244 then ((galleyref02_in.f t137 128 143).bind fun t178 => (if t178 = true then (some 4) else (some 0))) else (some 0)) = some r := by rw [if_neg (show ¬ (false = true) by decide)] at H; exact H
                          clear H
                          have H := H1
                          clear H1
                          by_cases c94 : t136 = 244
                          · rw [if_pos c94] at H
                            have c94b0 : (t136 == 244) = true := beq_iff_eq.mpr c94
                            have c94b1 : (t136 != 244) = false := bne_eq_false_iff_eq.mpr c94
                            clear c94
                            replace H := Option.bind_eq_some_iff.mp H
                            obtain ⟨t178, A950, H⟩ := H
                            replace H : (if t178 = true then (some 4) else (some 0)) = some r := H
                            have A95 := Aside0.mk A950
                            clear A950
                            by_cases c96 : t178 = true
                            · subst c96
                              have H1 : (some 4) = some r := by rw [if_pos rfl] at H; exact H
                              clear H
                              have H := H1
                              clear H1
                              obtain rfl := Option.some.inj H
                              go_wp2_with (first | (go_at_call 40; (with_reducible refine (galleyref02_in.calls t136 241 243 true _ A90.out).mono ?_); rintro e w' ⟨rfl, ⟨nd, rfl⟩⟩) | (go_at_call 40; (with_reducible refine (galleyref02_in.calls t137 128 191 false _ A92.out).mono ?_); rintro e w' ⟨rfl, ⟨nd, rfl⟩⟩) | (go_at_call 40; (with_reducible refine (galleyref02_in.calls t137 128 143 true _ A95.out).mono ?_); rintro e w' ⟨rfl, ⟨nd, rfl⟩⟩))
                              go_ret
                              exact ⟨by first | rfl | (simp; done) | (simp [*]; done), by repeat (first | exact Drawn0.refl _ | apply Drawn0.step)⟩
                            · replace c96 := Bool.eq_false_iff.mpr c96
                              subst c96
                              have H1 : (some 0) = some r := by rw [if_neg (show ¬ (false = true) by decide)] at H; exact H
                              clear H
                              have H := H1
                              clear H1
                              obtain rfl := Option.some.inj H
                              go_wp2_with (first | (go_at_call 40; (with_reducible refine (galleyref02_in.calls t136 241 243 true _ A90.out).mono ?_); rintro e w' ⟨rfl, ⟨nd, rfl⟩⟩) | (go_at_call 40; (with_reducible refine (galleyref02_in.calls t137 128 191 false _ A92.out).mono ?_); rintro e w' ⟨rfl, ⟨nd, rfl⟩⟩) | (go_at_call 40; (with_reducible refine (galleyref02_in.calls t137 128 143 false _ A95.out).mono ?_); rintro e w' ⟨rfl, ⟨nd, rfl⟩⟩))
                              go_ret
                              exact ⟨by first | rfl | (simp; done) | (simp [*]; done), by repeat (first | exact Drawn0.refl _ | apply Drawn0.step)⟩
                          · rw [if_neg c94] at H
                            have c94b0 : (t136 == 244) = false := beq_eq_false_iff_ne.mpr c94
                            have c94b1 : (t136 != 244) = true := bne_iff_ne.mpr c94
                            obtain rfl := Option.some.inj H
                            go_wp2_with (first | (go_at_call 40; (with_reducible refine (galleyref02_in.calls t136 241 243 true _ A90.out).mono ?_); rintro e w' ⟨rfl, ⟨nd, rfl⟩⟩) | (go_at_call 40; (with_reducible refine (galleyref02_in.calls t137 128 191 false _ A92.out).mono ?_); rintro e w' ⟨rfl, ⟨nd, rfl⟩⟩))
                            go_ret
                            exact ⟨by first | rfl | (simp; done) | (simp [*]; done), by repeat (first | exact Drawn0.refl _ | apply Drawn0.step)⟩
                      · replace c91 := Bool.eq_false_iff.mpr c91
                        subst c91
                        have H1 : (if t136 = 244 then ((galleyref02_in.f t137 128 143).bind fun t179 => (if t179 = true then (some 4) else (some 0))) else (some 0)) = some r := by rw [if_neg (show ¬ (false = true) by decide)] at H; exact H
                        clear H
                        have H := H1
                        clear H1
                        by_cases c97 : t136 = 244
                        · rw [if_pos c97] at H
                          have c97b0 : (t136 == 244) = true := beq_iff_eq.mpr c97
                          have c97b1 : (t136 != 244) = false := bne_eq_false_iff_eq.mpr c97
                          clear c97
                          replace H := Option.bind_eq_some_iff.mp H
                          obtain ⟨t179, A980, H⟩ := H
                          replace H : (if t179 = true then (some 4) else (some 0)) = some r := H
                          have A98 := Aside0.mk A980
                          clear A980
                          by_cases c99 : t179 = true
                          · subst c99
                            have H1 : (some 4) = some r := by rw [if_pos rfl] at H; exact H
                            clear H
                            have H := H1
                            clear H1
                            obtain rfl := Option.some.inj H
                            go_wp2_with (first | (go_at_call 40; (with_reducible refine (galleyref02_in.calls t136 241 243 false _ A90.out).mono ?_); rintro e w' ⟨rfl, ⟨nd, rfl⟩⟩) | (go_at_call 40; (with_reducible refine (galleyref02_in.calls t137 128 143 true _ A98.out).mono ?_); rintro e w' ⟨rfl, ⟨nd, rfl⟩⟩))
                            go_ret
                            exact ⟨by first | rfl | (simp; done) | (simp [*]; done), by repeat (first | exact Drawn0.refl _ | apply Drawn0.step)⟩
                          · replace c99 := Bool.eq_false_iff.mpr c99
                            subst c99
                            have H1 : (some 0) = some r := by rw [if_neg (show ¬ (false = true) by decide)] at H; exact H
                            clear H
                            have H := H1
                            clear H1
                            obtain rfl := Option.some.inj H
                            go_wp2_with (first | (go_at_call 40; (with_reducible refine (galleyref02_in.calls t136 241 243 false _ A90.out).mono ?_); rintro e w' ⟨rfl, ⟨nd, rfl⟩⟩) | (go_at_call 40; (with_reducible refine (galleyref02_in.calls t137 128 143 false _ A98.out).mono ?_); rintro e w' ⟨rfl, ⟨nd, rfl⟩⟩))
                            go_ret
                            exact ⟨by first | rfl | (simp; done) | (simp [*]; done), by repeat (first | exact Drawn0.refl _ | apply Drawn0.step)⟩
                        · rw [if_neg c97] at H
                          have c97b0 : (t136 == 244) = false := beq_eq_false_iff_ne.mpr c97
                          have c97b1 : (t136 != 244) = true := bne_iff_ne.mpr c97
                          obtain rfl := Option.some.inj H
                          go_wp2_with (first | (go_at_call 40; (with_reducible refine (galleyref02_in.calls t136 241 243 false _ A90.out).mono ?_); rintro e w' ⟨rfl, ⟨nd, rfl⟩⟩))
                          go_ret
                          exact ⟨by first | rfl | (simp; done) | (simp [*]; done), by repeat (first | exact Drawn0.refl _ | apply Drawn0.step)⟩
                  · replace c76 := Bool.eq_false_iff.mpr c76
                    subst c76
                    have H1 : (some 0) = some r := by rw [if_neg (show ¬ (false = true) by decide)] at H; exact H
                    clear H
                    have H := H1
                    clear H1
                    obtain rfl := Option.some.inj H
                    go_wp2
                    go_ret
                    exact ⟨by first | rfl | (simp; done) | (simp [*]; done), by repeat (first | exact Drawn0.refl _ | apply Drawn0.step)⟩

end Go.Proofs.YtiolhoaoepgmcaaDoor.Pr
