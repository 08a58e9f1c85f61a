/- Leaves: Before, Split, Join; and the law's own 'is'. Conditions: a leaf's text fits; step.bad's cells are as laid. -/
import Derived.Test.YtiolhoaoepgmcaaDoorLf
import Derived.Deep.RegionHeld3
import Derived.Deep.DrawnRows
namespace Go.Proofs.YtiolhoaoepgmcaaDoor.Pr
open Go.RowKit Go.Proofs.YtiolhoaoepgmcaaDoor.Math Go.Proofs.YtiolhoaoepgmcaaDoor.PuMs Go.Proofs.YtiolhoaoepgmcaaDoorW.PrintWords Go.Proofs.YtiolhoaoepgmcaaDoorW.PrintLast Go.Proofs.YtiolhoaoepgmcaaDoorW.PrintMore
set_option linter.unusedVariables false
set_option linter.unusedSimpArgs false
attribute [local go_sem ↓] Go.wp_at_zero Go.wp_at_succ

theorem ex_size (s : ByteArray) (a b : Nat) (hs : s.size ≤ 268435456) : (s.extract a b).size ≤ 268435456 := by rw [ByteArray.size_extract]; omega
/-- Two new leaves. -/
def LfTwo (w : World) (s t : ByteArray) (e : Ending) (w' : World) : Prop := ∃ b c, e = .returned (.tuple #[lfP b, lfP c, .int .i64 0]) ∧ (w.heap.size ≤ b ∧ Lf w' b s) ∧ (w.heap.size ≤ c ∧ Lf w' c t) ∧ Below w.heap.size w w'

set_option maxHeartbeats 4000000 in
set_option maxRecDepth 100000 in
theorem leaf_Split.ok (b : Nat) (s : ByteArray) (n : Nat) (hn : n ≤ s.size) (hs : s.size ≤ 268435456) (w : World) (hG : Glob.Globs w) (h : Lf w b s) :
    Calls Tryd.prog 16 #[lfP b, .int .i64 (n : Int)] w (LfTwo w (s.extract 0 n) (s.extract n s.size)) := by
  have HG := Lib.hid hG
  have HL := Lib.hid h
  have HN := Lib.hid hn
  have HS := Lib.hid hs
  have hc := h.text
  have h0 : (0 : Int) ≤ (n : Int) := by omega
  have h1 : (n : Int) ≤ (s.size : Int) := by omega
  clear hG h hs hn
  go_enter Tryd.func16, Tryd.ntmps16
  go_wp2_with (go_at_call 27; refine (leaf_place.ok b s n HN.out HS.out w HL.out).mono ?_; rintro e w' ⟨rfl, rfl⟩)
  go_region_held3 (fun w' => w'.cell? ⟨b, 0, none⟩ = some (.string s)) (first | assumption) (first | (go_at_call 22; refine (leaf_made.calls _ (ex_size _ _ _ HS.out) _ (by first | exact HG.out | exact Glob.Globs_drew HG.out | exact (Hid.out (by assumption)))).mono ?_; rintro e w1 ⟨b1, rfl, hb0, hL, hb⟩; have HLb := Lib.hid (show Lf w1 b s from by first | exact HL.out.below hb | exact (Lf.drew HL.out).below hb | exact (Hid.out (by assumption : Hid (Lf _ b s))).below hb); have hc1 := HLb.out.text; have HG1 := Lib.hid (show Glob.Globs w1 from by first | exact Glob.Globs_below HG.out hb | exact Glob.Globs_below (Glob.Globs_drew HG.out) hb | exact Glob.Globs_below (Hid.out (by assumption)) hb); have q1 := Lib.hid hL; have q2 := Lib.hid hb; have q3 := Lib.hid hb0; clear hL hb hb0))
  obtain P1 := ‹Hid (Lf _ _ (s.extract 0 n))›
  obtain P2 := ‹Hid (Below w.drew.heap.size w.drew _)›
  obtain P3 := ‹Hid (w.drew.heap.size ≤ _)›
  go_wp2_with fail
  go_ret3
  exact ⟨_, _, rfl, ⟨P3.out, P1.out.below q2.out⟩, ⟨Nat.le_trans P2.out.size q3.out, q1.out⟩, below_step ((Below.refl _ w).drew.trans P2.out) q2.out⟩

set_option maxHeartbeats 4000000 in
set_option maxRecDepth 100000 in
theorem leaf_Split.bad (b : Nat) (s : ByteArray) (n : Int) (hn : n < 0 ∨ (s.size : Int) < n) (w : World) (h : Lf w b s) :
    Calls Tryd.prog 16 #[lfP b, .int .i64 n] w fun e w' => e = .returned (.tuple #[.pointer none, .pointer none, .int .i64 2]) ∧ w = w' := by
  have HL := Lib.hid h
  clear h
  rcases hn with hn | hn
  · have HN := Lib.hid hn
    clear hn
    go_enter Tryd.func16, Tryd.ntmps16
    go_wp2_with (go_at_call 27; refine (leaf_place.neg b s n HN.out w HL.out).mono ?_; rintro e w' ⟨rfl, rfl⟩)
    go_ret3
    exact ⟨rfl, rfl⟩
  · have HN := Lib.hid hn
    clear hn
    go_enter Tryd.func16, Tryd.ntmps16
    go_wp2_with (go_at_call 27; refine (leaf_place.high b s n HN.out w HL.out).mono ?_; rintro e w' ⟨rfl, rfl⟩)
    go_ret3
    exact ⟨rfl, rfl⟩
set_option maxHeartbeats 4000000 in
set_option maxRecDepth 100000 in
theorem leaf_Split.none (n : Int) (w : World) :
    Calls Tryd.prog 16 #[.pointer none, .int .i64 n] w fun e w' => e = .returned (.tuple #[.pointer none, .pointer none, .int .i64 1]) ∧ w = w' := by
  go_enter Tryd.func16, Tryd.ntmps16
  go_wp2_with (go_at_call 27; refine (leaf_place.none n w).mono ?_; rintro e w' ⟨rfl, rfl⟩)
  go_ret3
  exact ⟨rfl, rfl⟩

set_option maxHeartbeats 4000000 in
set_option maxRecDepth 100000 in
theorem leaf_Before.ok (b : Nat) (s : ByteArray) (n : Nat) (hn : n ≤ s.size) (hs : s.size ≤ 268435456) (w : World) (hG : Glob.Globs w) (h : Lf w b s) :
    Calls Tryd.prog 15 #[lfP b, .int .i64 (n : Int)] w fun e w' => e = .returned (.tuple #[msV (mOf (bytesOf (s.extract 0 n))), .int .i64 0]) ∧ Below w.heap.size w w' := by
  have HG := Lib.hid hG
  have HL := Lib.hid h
  have HN := Lib.hid hn
  have HS := Lib.hid hs
  have h0 : (0 : Int) ≤ (n : Int) := by omega
  have h1 : (n : Int) ≤ (s.size : Int) := by omega
  have HX := Lib.hid (ex_size s 0 n hs)
  obtain ⟨t, ht⟩ : ∃ t, s.extract 0 n = t := ⟨_, rfl⟩
  rw [ht] at HX
  rw [ht]
  obtain ⟨m, hm⟩ : ∃ m, mOf (bytesOf t) = m := ⟨_, rfl⟩
  have HM := Lib.hid hm
  rw [hm]
  clear hG h hs hn hm
  obtain ⟨m1, m2, m3, m4, m5, m6⟩ := m
  go_enter Tryd.func15, Tryd.ntmps15
  go_wp2_with (first | ((with_reducible refine gate_dst (N := 4) rfl ?_); refine box_event ?hg (N := 4) ?hd (cs := #[.int .i64 0, .int .i64 0, .int .i64 0, .int .i64 0, .string ⟨#[]⟩, .string ⟨#[]⟩]) (t := 36) ?hr ?_; (case hd => rfl); (case hg => rfl); (case hr => first | (go_simp; done) | (go_simp; rfl)); intro gb hg w2 hbox hb; have HL2 := Lib.hid (HL.out.below hb); have hc := HL2.out.text; have hcv := conv_bytes w2 t; have HBK := Lib.hid hbox; have HB := Lib.hid hb; have HGB := Lib.hid hg; clear hbox hb hg) | (go_at_call 27; refine (leaf_place.ok b s n HN.out HS.out _ HL2.out).mono ?_; rintro e w' ⟨rfl, rfl⟩) | (go_at_call 18; refine (weldOf_any _ _ _ (bytesOf t) _ (bytesOf_length t) (bo_byt t) HX.out (Glob.Globs_below (Glob.Globs_below HG.out HB.out) (bytes_below w2 t)) (bytes_C w2 t HX.out) (bytesCells_len w2 5 t)).mono ?_; rw [HM.out]; rintro e w3 ⟨rfl, hb3⟩; have HB3 := Lib.hid (below_step (bytes_below w2 t) hb3); have BK3 := (blk_below HBK.out HB3.out); have HBK3 := Lib.hid BK3; obtain ⟨hz0, hz1, hz2, hz3, hz4, hz5, hzf⟩ := wblk BK3; clear hb3 BK3))
  exact bodyPost_ret (results_ct rfl _ _ gb 36 #[.int .i64 m1, .int .i64 m2, .int .i64 m3, .int .i64 m4, .string m5, .string m6] (0, 0) _ rfl (wset HBK3.out _ _ _ _ _ _) Tryd.underlying36 rfl (by kernel_rfl)) rfl ⟨rfl, wset_below (below_step HB.out HB3.out) (Nat.le_of_eq HGB.out.symm) _ _ _ _ _ _⟩
set_option maxHeartbeats 4000000 in
set_option maxRecDepth 100000 in
theorem leaf_Before.bad (b : Nat) (s : ByteArray) (n : Int) (hn : n < 0 ∨ (s.size : Int) < n) (w : World) (h : Lf w b s) :
    Calls Tryd.prog 15 #[lfP b, .int .i64 n] w fun e w' => e = .returned (.tuple #[.agg #[.int .i64 0, .int .i64 0, .int .i64 0, .int .i64 0, .string ⟨#[]⟩, .string ⟨#[]⟩], .int .i64 2]) ∧ Below w.heap.size w w' := by
  have HL := Lib.hid (h.alloc (.cells #[.int .i64 0, .int .i64 0, .int .i64 0, .int .i64 0, .string ⟨#[]⟩, .string ⟨#[]⟩] 36))
  clear h
  rcases hn with hn | hn
  · have HN := Lib.hid hn
    clear hn
    go_enter Tryd.func15, Tryd.ntmps15
    go_wp2_with (go_at_call 27; refine (leaf_place.neg b s n HN.out _ HL.out).mono ?_; rintro e w' ⟨rfl, rfl⟩)
    exact bodyPost_ret (results_ct rfl _ _ w.heap.size 36 #[.int .i64 0, .int .i64 0, .int .i64 0, .int .i64 0, .string ⟨#[]⟩, .string ⟨#[]⟩] (0, 0) _ rfl (blk_new w _) Tryd.underlying36 rfl (by kernel_rfl)) rfl ⟨rfl, (Below.refl _ w).alloc (Nat.le_refl _) _⟩
  · have HN := Lib.hid hn
    clear hn
    go_enter Tryd.func15, Tryd.ntmps15
    go_wp2_with (go_at_call 27; refine (leaf_place.high b s n HN.out _ HL.out).mono ?_; rintro e w' ⟨rfl, rfl⟩)
    exact bodyPost_ret (results_ct rfl _ _ w.heap.size 36 #[.int .i64 0, .int .i64 0, .int .i64 0, .int .i64 0, .string ⟨#[]⟩, .string ⟨#[]⟩] (0, 0) _ rfl (blk_new w _) Tryd.underlying36 rfl (by kernel_rfl)) rfl ⟨rfl, (Below.refl _ w).alloc (Nat.le_refl _) _⟩
set_option maxHeartbeats 4000000 in
set_option maxRecDepth 100000 in
theorem leaf_Before.none (n : Int) (w : World) :
    Calls Tryd.prog 15 #[.pointer none, .int .i64 n] w fun e w' => e = .returned (.tuple #[.agg #[.int .i64 0, .int .i64 0, .int .i64 0, .int .i64 0, .string ⟨#[]⟩, .string ⟨#[]⟩], .int .i64 1]) ∧ Below w.heap.size w w' := by
  go_enter Tryd.func15, Tryd.ntmps15
  go_wp2_with (go_at_call 27; refine (leaf_place.none n _).mono ?_; rintro e w' ⟨rfl, rfl⟩)
  exact bodyPost_ret (results_ct rfl _ _ w.heap.size 36 #[.int .i64 0, .int .i64 0, .int .i64 0, .int .i64 0, .string ⟨#[]⟩, .string ⟨#[]⟩] (0, 0) _ rfl (blk_new w _) Tryd.underlying36 rfl (by kernel_rfl)) rfl ⟨rfl, (Below.refl _ w).alloc (Nat.le_refl _) _⟩

set_option maxHeartbeats 4000000 in
set_option maxRecDepth 100000 in
theorem leaf_Join.ok (a b : Nat) (s t : ByteArray) (hst : s.size + t.size ≤ 4096) (w : World) (hG : Glob.Globs w) (ha : Lf w a s) (hb : Lf w b t) :
    Calls Tryd.prog 21 #[lfP a, lfP b] w fun e w' => ∃ c, e = .returned (.tuple #[lfP c, .int .i64 0]) ∧ w.heap.size ≤ c ∧ Lf w' c (s ++ t) ∧ Below w.heap.size w w' := by
  have HG := Lib.hid hG
  have HA := Lib.hid ha
  have HB := Lib.hid hb
  have hca := ha.text
  have hcb := hb.text
  have hsz : decide ((4096 : Int) < (s.size : Int) + (t.size : Int)) = false := decide_eq_false (by omega)
  have hb1 : (s.size : Int) ≤ 4096 := by omega
  have hb2 : (t.size : Int) ≤ 4096 := by omega
  have hb3 : s.size + t.size ≤ 4096 := hst
  have HX := Lib.hid (show (s ++ t).size ≤ 268435456 by rw [ByteArray.size_append]; omega)
  have hcat : (9223372036854775807 < s.size + t.size) = False := eq_false (by omega)
  clear hG ha hb hst
  go_enter Tryd.func21, Tryd.ntmps21
  go_wp2_with (first | (go_at_call 12; (with_reducible refine (leaf_Len.calls a s _ HA.out).mono ?_); rintro e w' ⟨rfl, rfl⟩) | (go_at_call 12; (with_reducible refine (leaf_Len.calls b t _ HB.out).mono ?_); rintro e w' ⟨rfl, rfl⟩))
  go_region_held3 (fun w' => w'.cell? ⟨a, 0, none⟩ = some (.string s) ∧ w'.cell? ⟨b, 0, none⟩ = some (.string t)) (first | exact ⟨hca, hcb⟩ | exact ⟨hc1, hc2⟩) (first | (go_at_call 22; refine (leaf_made.calls _ HX.out _ (by first | exact HG.out | exact Glob.Globs_drew HG.out)).mono ?_; rintro e w1 ⟨b1, rfl, hb0, hL, hb⟩; have hc1 := (HA.out.drew.below hb).text; have hc2 := (HB.out.drew.below hb).text; have q1 := Lib.hid hL; have q2 := Lib.hid hb; have q3 := Lib.hid hb0; clear hL hb hb0))
  go_wp2_with fail
  go_ret2
  exact ⟨_, rfl, q3.out, q1.out, (Below.refl _ w).drew.trans q2.out⟩
set_option maxHeartbeats 4000000 in
set_option maxRecDepth 100000 in
theorem leaf_Join.long (a b : Nat) (s t : ByteArray) (hs : s.size ≤ 4096) (ht : t.size ≤ 4096) (hst : 4096 < s.size + t.size) (w : World) (ha : Lf w a s) (hb : Lf w b t) :
    Calls Tryd.prog 21 #[lfP a, lfP b] w fun e w' => e = .returned (.tuple #[.pointer none, .int .i64 5]) ∧ w = w' := by
  have HA := Lib.hid ha
  have HB := Lib.hid hb
  have hsz : decide ((4096 : Int) < (s.size : Int) + (t.size : Int)) = true := decide_eq_true (by omega)
  have hb1 : (s.size : Int) ≤ 4096 := by omega
  have hb2 : (t.size : Int) ≤ 4096 := by omega
  clear ha hb hst hs ht
  go_enter Tryd.func21, Tryd.ntmps21
  go_wp2_with (first | (go_at_call 12; (with_reducible refine (leaf_Len.calls a s _ HA.out).mono ?_); rintro e w' ⟨rfl, rfl⟩) | (go_at_call 12; (with_reducible refine (leaf_Len.calls b t _ HB.out).mono ?_); rintro e w' ⟨rfl, rfl⟩))
  go_ret2
  exact ⟨rfl, rfl⟩
set_option maxHeartbeats 4000000 in
set_option maxRecDepth 100000 in
theorem leaf_Join.none1 (v : Option Addr) (w : World) :
    Calls Tryd.prog 21 #[.pointer none, .pointer v] w fun e w' => e = .returned (.tuple #[.pointer none, .int .i64 1]) ∧ w = w' := by
  go_enter Tryd.func21, Tryd.ntmps21
  go_wp2_with fail
  go_ret2
  exact ⟨rfl, rfl⟩
set_option maxHeartbeats 4000000 in
set_option maxRecDepth 100000 in
theorem leaf_Join.none2 (a : Nat) (w : World) :
    Calls Tryd.prog 21 #[lfP a, .pointer none] w fun e w' => e = .returned (.tuple #[.pointer none, .int .i64 1]) ∧ w = w' := by
  go_enter Tryd.func21, Tryd.ntmps21
  go_wp2_with fail
  go_ret2
  exact ⟨rfl, rfl⟩
end Go.Proofs.YtiolhoaoepgmcaaDoor.Pr
