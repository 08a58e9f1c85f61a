import Derived.Test.YtbbccljelfjnkaaDoorPr1
import Derived.Deep.QuietTactic
import Derived.BigQuiet
namespace Go.Proofs.YtbbccljelfjnkaaDoor.Pr
open Go.RowKit Go.Proofs.YtbbccljelfjnkaaDoorW.PrintWords Go.Proofs.YtbbccljelfjnkaaDoorW.PrintLast Go.Proofs.YtbbccljelfjnkaaDoorW.PrintMore
set_option linter.unusedVariables false
set_option linter.unusedSimpArgs false

/-- One tail byte more. -/
def stepV (z c : Int) : Int := bits .or .i32 (wrap32 (z * 64)) (wrap32 (bits .and .u8 c 63))
/-- The first byte's own bits. -/
def headV (x m : Int) : Int := wrap32 (bits .and .u8 x m)
def valL : List Int → Option Int
  | [x0] => some (headV x0 127)
  | [x0, x1] => some (stepV (headV x0 31) x1)
  | [x0, x1, x2] => some (stepV (stepV (headV x0 15) x1) x2)
  | [x0, x1, x2, x3] => some (stepV (stepV (stepV (headV x0 7) x1) x2) x3)
  | _ => none
def octet_Value.f (k : Nat) (l0 : List Int) : Option Int := (octet_Whole.f k l0).bind fun t => if t = true then valL l0 else some (-1)
theorem octet_Value.mono : ∀ a0 k, LeO (octet_Value.f k a0) (octet_Value.f (k + 1) a0) := by
  intro a0 k
  unfold octet_Value.f
  exact LeO.bind (octet_Whole.mono _ _) (fun _ => LeO.refl _)
theorem ret_i32 {a b : Int} (h : a = b) : Ending.returned (.int .i32 a) = .returned (.int .i32 b) := by rw [h]

set_option maxHeartbeats 8000000 in
set_option maxRecDepth 100000 in
theorem octet_Value.no (k : Nat) (A0 : Option Addr) (c0 : Nat) (l0 : List Int) (w : World) (hG : Glob.Globs w) (hr0 : Kd.C (Kd.int .u8) w A0 l0.length l0) (hc0 : l0.length ≤ c0) (h : octet_Whole.f k l0 = some false) :
    Calls Tryd.prog 19 #[.slice A0 l0.length c0] w fun e w' => e = .returned (.int .i32 (-1)) ∧ Below w.heap.size w w' := by
  have HG := Lib.hid hG
  have HR := Lib.hid hr0
  have HH := Lib.hid h
  have HC := Lib.hid hc0
  clear hG hr0 h hc0
  go_enter Tryd.func19, Tryd.ntmps19
  go_wp2_with (go_at_call 17; refine (octet_Whole.calls k _ _ _ false _ HG.out HR.out HC.out HH.out).mono ?_; rintro e w1 ⟨rfl, hb⟩)
  go_ret
  exact ⟨rfl, hb⟩

set_option maxHeartbeats 8000000 in
set_option maxRecDepth 100000 in
theorem octet_Value.yes1 (A0 : Option Addr) (c0 : Nat) (x0 : Int) (w : World) (hG : Glob.Globs w) (hr0 : Kd.C (Kd.int .u8) w A0 1 [x0]) (hc0 : 1 ≤ c0) (k : Nat) (h : octet_Whole.f k [x0] = some true) (r : Int) (hv : valL [x0] = some r) :
    Calls Tryd.prog 19 #[.slice A0 1 c0] w fun e w' => e = .returned (.int .i32 r) ∧ Below w.heap.size w w' := by
  have HV := Lib.hid (Option.some.inj hv)
  clear hv
  have HG := Lib.hid hG
  have HR := Lib.hid hr0
  have HH := Lib.hid h
  have HC := Lib.hid hc0
  clear hG hr0 h hc0
  obtain ⟨ad, rfl, hx0⟩ := Kd.at_int HR.out 0 (by omega) (by simp)
  go_enter Tryd.func19, Tryd.ntmps19
  go_wp2_with (go_at_call 17; refine (octet_Whole.calls k _ _ _ true _ HG.out HR.out HC.out HH.out).mono ?_; rintro e w1 ⟨rfl, hb⟩)
  have hG1 := Glob.Globs_below HG.out hb
  have hm : w1.cell? ⟨2, 1, none⟩ = some (.int .u8 127) := by rw [hG1.masks_cell]; rfl
  have hy0 := (hb.cell (World.block_lt_of_cell? w _ hx0)).trans hx0
  clear hx0 hG1
  obtain ⟨b, o, sp⟩ := ad
  have hsp : sp = none := by simpa [Addr.add] using World.cell?_spot hy0
  subst hsp
  have hz0 : w1.cell? ⟨b, o, none⟩ = some (.int .u8 x0) := by simpa [rd, Addr.add] using hy0
  clear hy0
  go_quiet (fail)
  all_goals go_wp2
  all_goals go_loop [3, 21] (fun r i => i = .int .i64 0 ∧ r = .int .i32 (headV x0 127)) (fun _ i => 1 - (intOf i).toNat)
  all_goals first
    | (case atStart => exact ⟨rfl, rfl⟩)
    | skip
  all_goals (obtain ⟨rfl, rfl⟩ := hrel; go_wp2; go_ret; exact ⟨ret_i32 HV.out, pw_below_drewN hb _⟩)

set_option maxHeartbeats 8000000 in
set_option maxRecDepth 100000 in
theorem octet_Value.yes2 (A0 : Option Addr) (c0 : Nat) (x0 x1 : Int) (w : World) (hG : Glob.Globs w) (hr0 : Kd.C (Kd.int .u8) w A0 2 [x0, x1]) (hc0 : 2 ≤ c0) (k : Nat) (h : octet_Whole.f k [x0, x1] = some true) (r : Int) (hv : valL [x0, x1] = some r) :
    Calls Tryd.prog 19 #[.slice A0 2 c0] w fun e w' => e = .returned (.int .i32 r) ∧ Below w.heap.size w w' := by
  have HV := Lib.hid (Option.some.inj hv)
  clear hv
  have HG := Lib.hid hG
  have HR := Lib.hid hr0
  have HH := Lib.hid h
  have HC := Lib.hid hc0
  clear hG hr0 h hc0
  obtain ⟨ad, rfl, hx0⟩ := Kd.at_int HR.out 0 (by omega) (by simp)
  obtain ⟨_, e1, hx1⟩ := Kd.at_int HR.out 1 (by omega) (by simp)
  cases e1
  go_enter Tryd.func19, Tryd.ntmps19
  go_wp2_with (go_at_call 17; refine (octet_Whole.calls k _ _ _ true _ HG.out HR.out HC.out HH.out).mono ?_; rintro e w1 ⟨rfl, hb⟩)
  have hG1 := Glob.Globs_below HG.out hb
  have hm : w1.cell? ⟨2, 2, none⟩ = some (.int .u8 31) := by rw [hG1.masks_cell]; rfl
  have hy0 := (hb.cell (World.block_lt_of_cell? w _ hx0)).trans hx0
  have hy1 := (hb.cell (World.block_lt_of_cell? w _ hx1)).trans hx1
  clear hx0 hx1 hG1
  obtain ⟨b, o, sp⟩ := ad
  have hsp : sp = none := by simpa [Addr.add] using World.cell?_spot hy0
  subst hsp
  have hz0 : w1.cell? ⟨b, o, none⟩ = some (.int .u8 x0) := by simpa [rd, Addr.add] using hy0
  have hz1 : w1.cell? ⟨b, o + 1, none⟩ = some (.int .u8 x1) := by simpa [rd, Addr.add, Nat.add_assoc] using hy1
  clear hy0 hy1
  have hne : ¬ c0 = 1 := by have := HC.out; omega
  go_quiet (fail)
  go_wp2
  go_loop [3, 21] (fun r i => ∃ j : Nat, i = .int .i64 j ∧ ((j = 0 ∧ r = .int .i32 (headV x0 31)) ∨ (j = 1 ∧ r = .int .i32 (stepV (headV x0 31) x1)))) (fun _ i => 1 - (intOf i).toNat)
  case atStart => exact ⟨0, rfl, .inl ⟨rfl, rfl⟩⟩
  case round =>
    obtain ⟨j, rfl, hj⟩ := hrel
    rcases hj with ⟨rfl, rfl⟩ | ⟨rfl, rfl⟩
    · go_wp2
      go_round
      case rel => exact ⟨1, rfl, .inr (⟨rfl, rfl⟩)⟩
      case measure => simp [intOf]
    · go_wp2
      go_ret
      exact ⟨ret_i32 HV.out, pw_below_drewN hb _⟩

set_option maxHeartbeats 8000000 in
set_option maxRecDepth 100000 in
theorem octet_Value.yes3 (A0 : Option Addr) (c0 : Nat) (x0 x1 x2 : Int) (w : World) (hG : Glob.Globs w) (hr0 : Kd.C (Kd.int .u8) w A0 3 [x0, x1, x2]) (hc0 : 3 ≤ c0) (k : Nat) (h : octet_Whole.f k [x0, x1, x2] = some true) (r : Int) (hv : valL [x0, x1, x2] = some r) :
    Calls Tryd.prog 19 #[.slice A0 3 c0] w fun e w' => e = .returned (.int .i32 r) ∧ Below w.heap.size w w' := by
  have HV := Lib.hid (Option.some.inj hv)
  clear hv
  have HG := Lib.hid hG
  have HR := Lib.hid hr0
  have HH := Lib.hid h
  have HC := Lib.hid hc0
  clear hG hr0 h hc0
  obtain ⟨ad, rfl, hx0⟩ := Kd.at_int HR.out 0 (by omega) (by simp)
  obtain ⟨_, e1, hx1⟩ := Kd.at_int HR.out 1 (by omega) (by simp)
  cases e1
  obtain ⟨_, e2, hx2⟩ := Kd.at_int HR.out 2 (by omega) (by simp)
  cases e2
  go_enter Tryd.func19, Tryd.ntmps19
  go_wp2_with (go_at_call 17; refine (octet_Whole.calls k _ _ _ true _ HG.out HR.out HC.out HH.out).mono ?_; rintro e w1 ⟨rfl, hb⟩)
  have hG1 := Glob.Globs_below HG.out hb
  have hm : w1.cell? ⟨2, 3, none⟩ = some (.int .u8 15) := by rw [hG1.masks_cell]; rfl
  have hy0 := (hb.cell (World.block_lt_of_cell? w _ hx0)).trans hx0
  have hy1 := (hb.cell (World.block_lt_of_cell? w _ hx1)).trans hx1
  have hy2 := (hb.cell (World.block_lt_of_cell? w _ hx2)).trans hx2
  clear hx0 hx1 hx2 hG1
  obtain ⟨b, o, sp⟩ := ad
  have hsp : sp = none := by simpa [Addr.add] using World.cell?_spot hy0
  subst hsp
  have hz0 : w1.cell? ⟨b, o, none⟩ = some (.int .u8 x0) := by simpa [rd, Addr.add] using hy0
  have hz1 : w1.cell? ⟨b, o + 1, none⟩ = some (.int .u8 x1) := by simpa [rd, Addr.add, Nat.add_assoc] using hy1
  have hz2 : w1.cell? ⟨b, o + 1 + 1, none⟩ = some (.int .u8 x2) := by simpa [rd, Addr.add, Nat.add_assoc] using hy2
  clear hy0 hy1 hy2
  have hne : ¬ c0 = 1 := by have := HC.out; omega
  go_quiet (fail)
  go_wp2
  go_loop [3, 21] (fun r i => ∃ j : Nat, i = .int .i64 j ∧ ((j = 0 ∧ r = .int .i32 (headV x0 15)) ∨ (j = 1 ∧ r = .int .i32 (stepV (headV x0 15) x1)) ∨ (j = 2 ∧ r = .int .i32 (stepV (stepV (headV x0 15) x1) x2)))) (fun _ i => 2 - (intOf i).toNat)
  case atStart => exact ⟨0, rfl, .inl ⟨rfl, rfl⟩⟩
  case round =>
    obtain ⟨j, rfl, hj⟩ := hrel
    rcases hj with ⟨rfl, rfl⟩ | ⟨rfl, rfl⟩ | ⟨rfl, rfl⟩
    · go_wp2
      go_round
      case rel => exact ⟨1, rfl, .inr (.inl ⟨rfl, rfl⟩)⟩
      case measure => simp [intOf]
    · go_wp2
      go_round
      case rel => exact ⟨2, rfl, .inr (.inr (⟨rfl, rfl⟩))⟩
      case measure => simp [intOf]
    · go_wp2
      go_ret
      exact ⟨ret_i32 HV.out, pw_below_drewN hb _⟩

set_option maxHeartbeats 8000000 in
set_option maxRecDepth 100000 in
theorem octet_Value.yes4 (A0 : Option Addr) (c0 : Nat) (x0 x1 x2 x3 : Int) (w : World) (hG : Glob.Globs w) (hr0 : Kd.C (Kd.int .u8) w A0 4 [x0, x1, x2, x3]) (hc0 : 4 ≤ c0) (k : Nat) (h : octet_Whole.f k [x0, x1, x2, x3] = some true) (r : Int) (hv : valL [x0, x1, x2, x3] = some r) :
    Calls Tryd.prog 19 #[.slice A0 4 c0] w fun e w' => e = .returned (.int .i32 r) ∧ Below w.heap.size w w' := by
  have HV := Lib.hid (Option.some.inj hv)
  clear hv
  have HG := Lib.hid hG
  have HR := Lib.hid hr0
  have HH := Lib.hid h
  have HC := Lib.hid hc0
  clear hG hr0 h hc0
  obtain ⟨ad, rfl, hx0⟩ := Kd.at_int HR.out 0 (by omega) (by simp)
  obtain ⟨_, e1, hx1⟩ := Kd.at_int HR.out 1 (by omega) (by simp)
  cases e1
  obtain ⟨_, e2, hx2⟩ := Kd.at_int HR.out 2 (by omega) (by simp)
  cases e2
  obtain ⟨_, e3, hx3⟩ := Kd.at_int HR.out 3 (by omega) (by simp)
  cases e3
  go_enter Tryd.func19, Tryd.ntmps19
  go_wp2_with (go_at_call 17; refine (octet_Whole.calls k _ _ _ true _ HG.out HR.out HC.out HH.out).mono ?_; rintro e w1 ⟨rfl, hb⟩)
  have hG1 := Glob.Globs_below HG.out hb
  have hm : w1.cell? ⟨2, 4, none⟩ = some (.int .u8 7) := by rw [hG1.masks_cell]; rfl
  have hy0 := (hb.cell (World.block_lt_of_cell? w _ hx0)).trans hx0
  have hy1 := (hb.cell (World.block_lt_of_cell? w _ hx1)).trans hx1
  have hy2 := (hb.cell (World.block_lt_of_cell? w _ hx2)).trans hx2
  have hy3 := (hb.cell (World.block_lt_of_cell? w _ hx3)).trans hx3
  clear hx0 hx1 hx2 hx3 hG1
  obtain ⟨b, o, sp⟩ := ad
  have hsp : sp = none := by simpa [Addr.add] using World.cell?_spot hy0
  subst hsp
  have hz0 : w1.cell? ⟨b, o, none⟩ = some (.int .u8 x0) := by simpa [rd, Addr.add] using hy0
  have hz1 : w1.cell? ⟨b, o + 1, none⟩ = some (.int .u8 x1) := by simpa [rd, Addr.add, Nat.add_assoc] using hy1
  have hz2 : w1.cell? ⟨b, o + 1 + 1, none⟩ = some (.int .u8 x2) := by simpa [rd, Addr.add, Nat.add_assoc] using hy2
  have hz3 : w1.cell? ⟨b, o + 1 + 2, none⟩ = some (.int .u8 x3) := by simpa [rd, Addr.add, Nat.add_assoc] using hy3
  clear hy0 hy1 hy2 hy3
  have hne : ¬ c0 = 1 := by have := HC.out; omega
  go_quiet (fail)
  go_wp2
  go_loop [3, 21] (fun r i => ∃ j : Nat, i = .int .i64 j ∧ ((j = 0 ∧ r = .int .i32 (headV x0 7)) ∨ (j = 1 ∧ r = .int .i32 (stepV (headV x0 7) x1)) ∨ (j = 2 ∧ r = .int .i32 (stepV (stepV (headV x0 7) x1) x2)) ∨ (j = 3 ∧ r = .int .i32 (stepV (stepV (stepV (headV x0 7) x1) x2) x3)))) (fun _ i => 3 - (intOf i).toNat)
  case atStart => exact ⟨0, rfl, .inl ⟨rfl, rfl⟩⟩
  case round =>
    obtain ⟨j, rfl, hj⟩ := hrel
    rcases hj with ⟨rfl, rfl⟩ | ⟨rfl, rfl⟩ | ⟨rfl, rfl⟩ | ⟨rfl, rfl⟩
    · go_wp2
      go_round
      case rel => exact ⟨1, rfl, .inr (.inl ⟨rfl, rfl⟩)⟩
      case measure => simp [intOf]
    · go_wp2
      go_round
      case rel => exact ⟨2, rfl, .inr (.inr (.inl ⟨rfl, rfl⟩))⟩
      case measure => simp [intOf]
    · go_wp2
      go_round
      case rel => exact ⟨3, rfl, .inr (.inr (.inr (⟨rfl, rfl⟩)))⟩
      case measure => simp [intOf]
    · go_wp2
      go_ret
      exact ⟨ret_i32 HV.out, pw_below_drewN hb _⟩

theorem octet_Value.calls (k : Nat) (A0 : Option Addr) (c0 : Nat) (l0 : List Int) (r : Int) (w : World) (hG : Glob.Globs w) (hr0 : Kd.C (Kd.int .u8) w A0 l0.length l0) (hc0 : l0.length ≤ c0) (h : octet_Value.f k l0 = some r) :
    Calls Tryd.prog 19 #[.slice A0 l0.length c0] w fun e w' => e = .returned (.int .i32 r) ∧ Below w.heap.size w w' := by
  obtain ⟨t, ht, hr⟩ := Option.bind_eq_some_iff.mp h
  cases t with
  | false =>
    obtain rfl : -1 = r := by simpa using hr
    exact octet_Value.no k A0 c0 l0 w hG hr0 hc0 ht
  | true =>
    replace hr : valL l0 = some r := by simpa using hr
    match l0, hr0, hc0, ht, hr with
    | [], _, _, _, hr => simp [valL] at hr
    | [x0], hr0, hc0, ht, hr => exact octet_Value.yes1 A0 c0 x0 w hG hr0 hc0 k ht r hr
    | [x0, x1], hr0, hc0, ht, hr => exact octet_Value.yes2 A0 c0 x0 x1 w hG hr0 hc0 k ht r hr
    | [x0, x1, x2], hr0, hc0, ht, hr => exact octet_Value.yes3 A0 c0 x0 x1 x2 w hG hr0 hc0 k ht r hr
    | [x0, x1, x2, x3], hr0, hc0, ht, hr => exact octet_Value.yes4 A0 c0 x0 x1 x2 x3 w hG hr0 hc0 k ht r hr
    | _ :: _ :: _ :: _ :: _ :: _, _, _, _, hr => simp [valL] at hr
end Go.Proofs.YtbbccljelfjnkaaDoor.Pr
