/- Rows of leaves; the contract of leaf.Cut, by hand. Conditions: the bytes' length fits; step.bad's cells are as laid. -/
import Derived.Test.YtiolhoaoepgmcaaDoorLf2
import Derived.Test.YtiolhoaoepgmcaaDoorPuFl
import Derived.Test.YtiolhoaoepgmcaaDoorPr5
namespace Go.Proofs.YtiolhoaoepgmcaaDoor.Pr
open Go.RowKit Go.Proofs.YtiolhoaoepgmcaaDoor.Math Go.Proofs.YtiolhoaoepgmcaaDoor.PuMs Go.Proofs.YtiolhoaoepgmcaaDoorW.PrintWords Go.Proofs.YtiolhoaoepgmcaaDoorW.PrintLast Go.Proofs.YtiolhoaoepgmcaaDoorW.PrintMore
set_option linter.unusedVariables false
set_option linter.unusedSimpArgs false

/-- A leaf, as an element of a row: a pointer to its block. -/
def kLf : Kd ByteArray where
  sz := 1
  E := [56]
  K := fun w s cs => ∃ b, cs = [lfP b] ∧ Lf w b s
  M := fun w base ok s cs => ∃ b, cs = [lfP b] ∧ Lf w b s ∧ ok b ∧ base ≤ b
  K_len := by
    rintro w x cs ⟨b, rfl, _⟩
    rfl
  K_one := by
    rintro w x cs ⟨b, rfl, _⟩ u hu
    rw [List.mem_singleton.1 hu]
    rfl
  K_below := by
    rintro w w1 x cs hb ⟨b, rfl, h⟩
    exact ⟨b, rfl, h.below hb⟩
  K_of_M := by
    rintro w base ok x cs ⟨b, rfl, h, _⟩
    exact ⟨b, rfl, h⟩
  M_mono := by
    rintro w base ok ok' x cs hok ⟨b, rfl, h, h1, h2⟩
    exact ⟨b, rfl, h, hok _ h1, h2⟩
  M_bound := by
    rintro w base ok x cs ⟨b, rfl, h, h1, h2⟩
    exact ⟨b, rfl, h, ⟨h1, h2, h.lt, _, List.mem_singleton.2 rfl, _, h⟩, h2⟩
  M_move := by
    rintro w w1 base ok x cs hm ⟨b, rfl, h, h1, h2⟩
    exact ⟨b, rfl, (hm _ h1).trans h, h1, h2⟩
  M_lower := by
    rintro w base base' ok x cs hb ⟨b, rfl, h, h1, h2⟩
    exact ⟨b, rfl, h, h1, Nat.le_trans hb h2⟩
theorem infoLf : (Tryd.prog.info? 22).map (fun i => (i.zero, i.size, i.bytes)) = some (some (.pointer none), 1, 8) := by kernel_rfl

/-- Where a piece ends. -/
def cutTo (l : List Int) (m p : Nat) : Nat := if 4 ≤ m then flo l (p + m) else p + m
theorem cutTo_in (l : List Int) (m p : Nat) (h1 : 1 ≤ m) : p < cutTo l m p ∧ cutTo l m p ≤ p + m ∧ p + m ≤ cutTo l m p + 3 := by
  have := insK_le l (p + m)
  unfold cutTo flo
  split <;> omega
/-- The pieces from a place on. -/
def cutF (l : List Int) (m : Nat) : Nat → Nat → List (List Int)
  | 0, _ => []
  | f + 1, p => if m < l.length - p then (l.take (cutTo l m p)).drop p :: cutF l m f (cutTo l m p) else if p < l.length then [l.drop p] else []
def cutP (l : List Int) (m : Nat) : List (List Int) := cutF l m (l.length + 1) 0
def CutPost (w : World) (ps : List (List Int)) (e : Ending) (w' : World) : Prop :=
  ∃ v, e = .returned (.tuple #[v, .int .i64 0]) ∧ Kd.R kLf 22 w' w.heap.size (fun _ => True) v (ps.map strOfNums) ∧ Below w.heap.size w w'

set_option maxHeartbeats 4000000 in
set_option maxRecDepth 100000 in
theorem leaf_Cut.bad (A : Option Addr) (n c : Nat) (m : Int) (hm : m < 1 ∨ 4096 < m) (w : World) :
    Calls Tryd.prog 9 #[.slice A n c, .int .i64 m] w fun e w' => e = .returned (.tuple #[.slice none 0 0, .int .i64 80]) ∧ w = w' := by
  by_cases h : m < 1
  · have h1 : decide (m < 1) = true := decide_eq_true h
    clear hm
    go_enter Tryd.func9, Tryd.ntmps9
    go_wp2_with fail
    go_ret2
    exact ⟨rfl, rfl⟩
  · have h1 : decide (m < 1) = false := decide_eq_false h
    have h2 : decide ((4096 : Int) < m) = true := decide_eq_true (by omega)
    clear hm
    go_enter Tryd.func9, Tryd.ntmps9
    go_wp2_with fail
    go_ret2
    exact ⟨rfl, rfl⟩
set_option maxHeartbeats 4000000 in
set_option maxRecDepth 100000 in
theorem leaf_Cut.long (A : Option Addr) (n c : Nat) (m : Int) (hm : 1 ≤ m ∧ m ≤ 4096) (hn : 268435456 < n) (hx : n ≤ 9223372036854775807) (w : World) :
    Calls Tryd.prog 9 #[.slice A n c, .int .i64 m] w fun e w' => e = .returned (.tuple #[.slice none 0 0, .int .i64 5]) ∧ w = w' := by
  have h1 : decide (m < 1) = false := decide_eq_false (by omega)
  have h2 : decide ((4096 : Int) < m) = false := decide_eq_false (by omega)
  have h3 : decide ((268435456 : Int) < (n : Int)) = true := decide_eq_true (by omega)
  clear hm
  go_enter Tryd.func9, Tryd.ntmps9
  go_wp2_with fail
  go_ret2
  exact ⟨rfl, rfl⟩

set_option maxHeartbeats 8000000 in
set_option maxRecDepth 100000 in
theorem leaf_Cut.ok (A : Option Addr) (c : Nat) (l : List Int) (m : Nat) (hm1 : 1 ≤ m) (hm2 : m ≤ 4096) (hl : l.length ≤ 268435456) (hby : Byt l) (w : World) (hG : Glob.Globs w) (hr : Kd.C (Kd.int .u8) w A l.length l) (hc : l.length ≤ c) :
    Calls Tryd.prog 9 #[.slice A l.length c, .int .i64 (m : Int)] w (CutPost w (cutP l m)) := by
  have HG := Lib.hid hG
  have HR := Lib.hid hr
  have HC := Lib.hid hc
  have HY := Lib.hid hby
  have HM := Lib.hid hm1
  have t1 : decide ((m : Int) < 1) = false := decide_eq_false (by omega)
  have t2 : decide ((4096 : Int) < (m : Int)) = false := decide_eq_false (by omega)
  have t3 : decide ((268435456 : Int) < (l.length : Int)) = false := decide_eq_false (by omega)
  have b1 : (m : Int) ≤ 4096 := by omega
  have b2 : (l.length : Int) ≤ 268435456 := by omega
  clear hG hr hc hby hm1 hm2
  obtain ⟨i0, hi0, _, hsz0, _⟩ := info_parts (show (Tryd.prog.info? 5).map (fun i => (i.zero, i.size, i.bytes)) = some (some (.int .u8 0), 1, 1) by kernel_rfl)
  have HI0 := Lib.hid hi0
  have HZ0 := Lib.hid hsz0
  clear hi0 hsz0
  go_enter Tryd.func9, Tryd.ntmps9
  go_wp2_with fail
  go_loopw [6, 7] (fun v6 v7 wr => ∃ (p f : Nat) (ps : List ByteArray), v7 = .int .i64 (p : Int) ∧ Hid (p ≤ l.length ∧ l.length - p < f) ∧ Hid (ps ++ (cutF l m f p).map strOfNums = (cutP l m).map strOfNums) ∧ Hid (ps.length ≤ p) ∧ Hid (Kd.R kLf 22 wr w.heap.size (fun _ => True) v6 ps) ∧ Hid (Below w.heap.size w wr))
    (fun _ i _ => l.length - (intOf i).toNat)
  case atStart => exact ⟨0, l.length + 1, [], rfl, Lib.hid ⟨by omega, by omega⟩, Lib.hid rfl, Lib.hid (Nat.le_refl _), Lib.hid (Kd.R_nil _ _ _ _ _), Lib.hid (Below.refl _ _)⟩
  case round =>
    obtain ⟨p, f, ps, rfl, HP, HS, HN, HO, HB⟩ := hrel
    obtain ⟨f, rfl⟩ : ∃ g, f = g + 1 := ⟨f - 1, by have := HP.out; omega⟩
    have p1 : (p : Int) ≤ (l.length : Int) := by have := HP.out; omega
    have p0 : (0 : Int) ≤ (p : Int) := by omega
    by_cases hlt : m < l.length - p
    · have q1 : decide ((m : Int) < (l.length : Int) - (p : Int)) = true := decide_eq_true (by omega)
      have hin := cutTo_in l m p HM.out
      obtain ⟨z, hz⟩ : ∃ z, cutTo l m p = z := ⟨_, rfl⟩
      rw [hz] at hin
      have HIN := Lib.hid hin
      have HS2 := HS.out
      rw [cutF, if_pos hlt, hz, List.map_cons] at HS2
      have hc4 : 4 ≤ m → flo l (p + m) = z := fun h => by rw [← hz]; unfold cutTo; rw [if_pos h]
      have hc3 : ¬ 4 ≤ m → p + m = z := fun h => by rw [← hz]; unfold cutTo; rw [if_neg h]
      have HC4 := Lib.hid hc4
      have HC3 := Lib.hid hc3
      have hzl : z ≤ l.length := by omega
      obtain ⟨A', hcut, hA, hC⟩ := print_mid_of (P := Tryd.prog) (Value.int .u8) (0 : Int) 26 5 .i64 .i64 Tryd.underlying26 HI0.out HZ0.out A c l (p : Int) (z : Int) p0 (by omega) (by omega) HC.out
      simp only [Int.toNat_natCast] at hcut hA hC
      have HR' := Kd.C_of_reads (h1 := fun _ => rfl) (hA w (Kd.reads_of_C (d := (0 : Int)) HR.out))
      have hpl : ((l.take z).drop p).length ≤ 268435456 := by rw [List.length_drop, List.length_take]; omega
      obtain ⟨pc, hpc⟩ : ∃ pc, (l.take z).drop p = pc := ⟨_, rfl⟩
      rw [hpc] at hcut hC HR' HS2 hpl
      have HSS := Lib.hid HS2
      have HRP := Lib.hid HR'
      have HPS := Lib.hid (show (strOfNums pc).size ≤ 268435456 by rw [sz_str]; exact hpl)
      clear hA hC HR' HS2 hpc hz hin hc4 hc3 hpl
      by_cases h4 : 4 ≤ m
      · have q2 : decide ((4 : Int) ≤ (m : Int)) = true := decide_eq_true (by omega)
        have hfl := floor_eq 0 l HY.out (by omega) (p + m) (by omega)
        rw [HC4.out h4, Int.natCast_add] at hfl
        have HFL := Lib.hid hfl
        clear hfl HC4 HC3 h4
        go_wp2_with (first | (go_at_call 23; refine (step_Floor.calls _ A c l _ (z : Int) 0 _ (Glob.Globs_below HG.out HB.out) (Kd.C_below HR.out HB.out) HC.out HFL.out).mono ?_; rintro e w1 ⟨rfl, hb1⟩; have HB1 := Lib.hid (below_step HB.out hb1); have HO1 := Lib.hid (Kd.R_below HO.out hb1); have hcv := conv_str A' (c - p) pc w1 (Kd.C_below HRP.out HB1.out); clear hb1) | (go_at_call 22; refine (leaf_made.calls _ HPS.out _ (Glob.Globs_below HG.out HB1.out)).mono ?_; rintro e w2 ⟨b, rfl, hb0, hL, hb2⟩; have HB2 := Lib.hid (below_step HB1.out hb2); have HO2 := Lib.hid (Kd.R_below HO1.out hb2); have HL2 := Lib.hid hL; have HLT := Lib.hid (show some b ≠ u6.ownBlock from fun h => absurd (Kd.R_lt HO1.out b h.symm) (by omega)); have HBB := Lib.hid (show w.heap.size ≤ b from Nat.le_trans HB1.out.size hb0); clear hb0 hL hb2) | ((with_reducible refine gate_builtin (b := .append) (xs := #[.tmp 35, .tmp 42]) rfl ?_); at_builtin; refine Kd.R_append kLf (w0 := w) w.heap.size rfl (.tmp 35) (.tmp 42) 27 22 (.pointer none) 8 rfl Tryd.underlying27 infoLf rfl (by decide) (by decide) u6 ps (strOfNums pc) [lfP b] (fun _ => True) (fun k => some k ≠ u6.ownBlock) rfl rfl ?aP (fun k hk => ⟨trivial, hk⟩) (fun _ _ => trivial) HO2.out HB2.out HB2.out.size ?aL ?_; (case aP => exact ⟨b, rfl, HL2.out, HLT.out, HBB.out⟩); (case aL => have := HN.out; omega); intro v3 w3 ho hb3 hg hat; have HO3 := Lib.hid ho; have HB3 := Lib.hid hb3; clear ho hb3 hg hat))
        go_roundw
        case rel => exact ⟨z, f, ps ++ [strOfNums pc], rfl, Lib.hid ⟨hzl, by have := HP.out; have := HIN.out; omega⟩, Lib.hid (by rw [List.append_assoc]; exact HSS.out), Lib.hid (by have := HN.out; have := HIN.out; rw [List.length_append]; simp; omega), HO3, HB3⟩
        case measure => have := HIN.out; have := HP.out; simp [intOf]; omega
      · have q2 : decide ((4 : Int) ≤ (m : Int)) = false := decide_eq_false (by omega)
        have hz3 := HC3.out h4
        have hz3i : (p : Int) + (m : Int) = (z : Int) := by omega
        have hcv := conv_str A' (c - p) pc wr (Kd.C_below HRP.out HB.out)
        clear HC4 HC3 h4 hz3
        go_wp2_with (first | (go_at_call 22; refine (leaf_made.calls _ HPS.out _ (Glob.Globs_below HG.out HB.out)).mono ?_; rintro e w2 ⟨b, rfl, hb0, hL, hb2⟩; have HB2 := Lib.hid (below_step HB.out hb2); have HO2 := Lib.hid (Kd.R_below HO.out hb2); have HL2 := Lib.hid hL; have HLT := Lib.hid (show some b ≠ u6.ownBlock from fun h => absurd (Kd.R_lt HO.out b h.symm) (by omega)); have HBB := Lib.hid (show w.heap.size ≤ b from Nat.le_trans HB.out.size hb0); clear hb0 hL hb2) | ((with_reducible refine gate_builtin (b := .append) (xs := #[.tmp 35, .tmp 42]) rfl ?_); at_builtin; refine Kd.R_append kLf (w0 := w) w.heap.size rfl (.tmp 35) (.tmp 42) 27 22 (.pointer none) 8 rfl Tryd.underlying27 infoLf rfl (by decide) (by decide) u6 ps (strOfNums pc) [lfP b] (fun _ => True) (fun k => some k ≠ u6.ownBlock) rfl rfl ?aP (fun k hk => ⟨trivial, hk⟩) (fun _ _ => trivial) HO2.out HB2.out HB2.out.size ?aL ?_; (case aP => exact ⟨b, rfl, HL2.out, HLT.out, HBB.out⟩); (case aL => have := HN.out; omega); intro v3 w3 ho hb3 hg hat; have HO3 := Lib.hid ho; have HB3 := Lib.hid hb3; clear ho hb3 hg hat))
        go_roundw
        case rel => exact ⟨z, f, ps ++ [strOfNums pc], rfl, Lib.hid ⟨hzl, by have := HP.out; have := HIN.out; omega⟩, Lib.hid (by rw [List.append_assoc]; exact HSS.out), Lib.hid (by have := HN.out; have := HIN.out; rw [List.length_append]; simp; omega), HO3, HB3⟩
        case measure => have := HIN.out; have := HP.out; simp [intOf]; omega
    · have q1 : decide ((m : Int) < (l.length : Int) - (p : Int)) = false := decide_eq_false (by omega)
      have HS2 := HS.out
      rw [cutF, if_neg hlt] at HS2
      by_cases hend : p < l.length
      · rw [if_pos hend] at HS2
        have q3 : decide ((p : Int) < (l.length : Int)) = true := decide_eq_true (by omega)
        have q4 : decide (p < l.length) = true := decide_eq_true hend
        obtain ⟨A', hcut, hA, hC⟩ := print_drop_of (P := Tryd.prog) (Value.int .u8) (0 : Int) 26 5 .i64 Tryd.underlying26 HI0.out HZ0.out A c l (p : Int) p0 p1 HC.out
        simp only [Int.toNat_natCast] at hcut hA hC
        have HR' := Kd.C_of_reads (h1 := fun _ => rfl) (hA w (Kd.reads_of_C (d := (0 : Int)) HR.out))
        have hpl : (l.drop p).length ≤ 268435456 := by rw [List.length_drop]; omega
        obtain ⟨pc, hpc⟩ : ∃ pc, l.drop p = pc := ⟨_, rfl⟩
        rw [hpc] at hcut hC HR' HS2 hpl
        have HSS := Lib.hid HS2
        have HRP := Lib.hid HR'
        have HPS := Lib.hid (show (strOfNums pc).size ≤ 268435456 by rw [sz_str]; exact hpl)
        clear hA hC HR' HS2 hpc hpl hend
        have hcv := conv_str A' (c - p) pc wr (Kd.C_below HRP.out HB.out)
        go_wp2_with (first | (go_at_call 22; refine (leaf_made.calls _ HPS.out _ (Glob.Globs_below HG.out HB.out)).mono ?_; rintro e w2 ⟨b, rfl, hb0, hL, hb2⟩; have HB2 := Lib.hid (below_step HB.out hb2); have HO2 := Lib.hid (Kd.R_below HO.out hb2); have HL2 := Lib.hid hL; have HLT := Lib.hid (show some b ≠ u6.ownBlock from fun h => absurd (Kd.R_lt HO.out b h.symm) (by omega)); have HBB := Lib.hid (show w.heap.size ≤ b from Nat.le_trans HB.out.size hb0); clear hb0 hL hb2) | ((with_reducible refine gate_builtin (b := .append) (xs := #[.tmp 49, .tmp 55]) rfl ?_); at_builtin; refine Kd.R_append kLf (w0 := w) w.heap.size rfl (.tmp 49) (.tmp 55) 27 22 (.pointer none) 8 rfl Tryd.underlying27 infoLf rfl (by decide) (by decide) u6 ps (strOfNums pc) [lfP b] (fun _ => True) (fun k => some k ≠ u6.ownBlock) rfl rfl ?aP (fun k hk => ⟨trivial, hk⟩) (fun _ _ => trivial) HO2.out HB2.out HB2.out.size ?aL ?_; (case aP => exact ⟨b, rfl, HL2.out, HLT.out, HBB.out⟩); (case aL => have := HN.out; omega); intro v3 w3 ho hb3 hg hat; have HO3 := Lib.hid ho; have HB3 := Lib.hid hb3; clear ho hb3 hg hat))
        go_ret2
        exact ⟨v3, rfl, by have h := HSS.out; rw [List.map_cons, List.map_nil] at h; rw [← h]; exact HO3.out, HB3.out⟩
      · rw [if_neg hend] at HS2
        have q3 : decide ((p : Int) < (l.length : Int)) = false := decide_eq_false (by omega)
        have q4 : decide (p < l.length) = false := decide_eq_false hend
        rw [List.map_nil, List.append_nil] at HS2
        have HSS := Lib.hid HS2
        clear HS2 hend
        go_wp2_with fail
        go_ret2
        exact ⟨u6, rfl, by rw [← HSS.out]; exact HO.out, HB.out⟩
end Go.Proofs.YtiolhoaoepgmcaaDoor.Pr
