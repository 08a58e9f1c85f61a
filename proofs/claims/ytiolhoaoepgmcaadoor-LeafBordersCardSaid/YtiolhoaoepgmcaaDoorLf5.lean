/- Rows of leaves, opened; the laws' fixed examples, by hand. Conditions: step.bad's cells are as laid. -/
import Derived.Test.YtiolhoaoepgmcaaDoorLf3
import Derived.Test.YtiolhoaoepgmcaaDoorLf4
import Derived.Lib.SlBytesConst
namespace Go.Proofs.YtiolhoaoepgmcaaDoor.Pr
open Go.RowKit Go.Proofs.YtiolhoaoepgmcaaDoor.Math Go.Proofs.YtiolhoaoepgmcaaDoor.PuMs Go.Proofs.YtiolhoaoepgmcaaDoorW.PrintWords Go.Proofs.YtiolhoaoepgmcaaDoorW.PrintLast Go.Proofs.YtiolhoaoepgmcaaDoorW.PrintMore
set_option linter.unusedVariables false
set_option linter.unusedSimpArgs false

theorem leaves_open {W : World} {base : Nat} {ok : Nat → Prop} {v : Value} {ps : List ByteArray} (h : Kd.R kLf 22 W base ok v ps) (hn : 0 < ps.length) :
    ∃ g c, v = .slice (some ⟨g, 0, none⟩) ps.length c ∧ ps.length ≤ c ∧ base ≤ g ∧ ∀ i (hi : i < ps.length), ∃ b, W.cell? ⟨g, i, none⟩ = some (lfP b) ∧ Lf W b ps[i] := by
  obtain ⟨_, inner, ho, hr⟩ := h
  rcases ho.2 with ⟨rfl, h0⟩ | ⟨g, cap, cur, rfl, hg, hh, h1, h2, h3, h4⟩
  · omega
  · refine ⟨g, cap, rfl, h1, hg, fun i hi => ?_⟩
    obtain ⟨b, hb, hL, _⟩ := hr.2 i ps[i] (List.getElem?_eq_getElem hi)
    have hsz : kLf.sz = 1 := rfl
    rw [hsz] at h4 hb
    rw [Nat.mul_one] at h4 hb
    refine ⟨b, ?_, hL⟩
    rw [cell_of_row _ _ _ _ _ _ hh]
    have e : inner[i]? = some (lfP b) := by
      have := congrArg (fun z => z[0]?) hb
      simp at this
      exact this
    rw [← h4, List.getElem?_take, if_pos hi, Array.getElem?_toList] at e
    exact e
/-- A row that was just laid reads as its list. -/
theorem C_lit (w : World) (e : TypeId) (xs : List Int) (fr : Nat × Nat) (h : xs.length ≤ 9223372036854775807) :
    Kd.C (Kd.int .u8) (w.alloc (.cells (xs.map (Value.int .u8)).toArray e fr)) (some ⟨w.heap.size, 0, none⟩) xs.length xs := by
  refine Kd.C_of_reads (d := (0 : Int)) (h1 := fun _ => rfl) ⟨rfl, h, fun _ => ⟨_, rfl, fun j hj => ?_⟩⟩
  rw [add_plain, cell_of_row _ _ j _ e fr (heap_alloc_new w _)]
  simp [List.getElem?_eq_getElem hj, List.getD_eq_getElem?_getD]
set_option maxRecDepth 100000 in
theorem fx_cut : cutP [97, 240, 159, 152, 128, 98, 99] 4 = [[97], [240, 159, 152, 128], [98, 99]] := by kernel_rfl
set_option maxRecDepth 100000 in
theorem fx_head : (mOf (bytesOf ((strOfNums [195, 169, 13]).extract 0 1))).2.2.2.2.1 = ⟨#[195]⟩ := by kernel_rfl

/-- Len, its world behind the call told by what it keeps alone. -/
theorem leaf_Len.keeps (b : Nat) (s : ByteArray) (w : World) (h : Lf w b s) : Calls Tryd.prog 12 #[lfP b] w fun e w' => e = .returned (.int .i64 (s.size : Int)) ∧ Below w.heap.size w w' :=
  (leaf_Len.calls b s w h).mono fun _ _ h => ⟨h.1, h.2 ▸ Below.refl _ _⟩
theorem bw_cell {w W : World} {e : TypeId} {s : ByteArray} {g i : Nat} {v : Value} (h : W.cell? ⟨g, i, none⟩ = some v) : (Lib.bytesWorld W e s).cell? ⟨g, i, none⟩ = some v :=
  (Lib.bytesWorld_old W e s ⟨g, i, none⟩ (World.block_lt_of_cell? W _ h)).trans h
theorem below_cell {w W : World} {g i : Nat} {v : Value} (hb : Below w.heap.size w W) (h : w.cell? ⟨g, i, none⟩ = some v) : W.cell? ⟨g, i, none⟩ = some v := (hb.cell (World.block_lt_of_cell? w _ h)).trans h

set_option maxHeartbeats 8000000 in
set_option maxRecDepth 100000 in
theorem law_fixed.calls (w : World) (hG : Glob.Globs w) : Calls Tryd.prog 10 #[] w fun e w' => e = .returned (.bool true) ∧ Below w.heap.size w w' := by
  have HG := Lib.hid hG
  clear hG
  have kc := fun (w : World) (C : Array Value) (n c : Nat) => Lib.run_convert_bytes_const (P := Tryd.prog) w 26 5 C n c Tryd.underlying26 Tryd.underlying5
  go_enter Tryd.func10, Tryd.ntmps10
  go_wp2_with fail
  refine (leaf_New.calls _ 3 [195, 169, 13] (by decide) _ (Glob.Globs_alloc HG.out _) (C_lit w 5 [195, 169, 13] (3, 4) (by decide))).mono ?_
  rintro e w1 ⟨b, rfl, hb0, hL, hb⟩
  have HB1 := Lib.hid (below_step ((Below.refl _ w).alloc (Nat.le_refl _) _) hb)
  obtain ⟨s0, hs0⟩ : ∃ s0, strOfNums [195, 169, 13] = s0 := ⟨_, rfl⟩
  rw [hs0] at hL
  have HL1 := Lib.hid hL
  have HE := Lib.hid hs0
  have e1 : ((s0.size : Int) == 3) = true := by rw [← hs0]; rfl
  have e2 : (s0.toList == [195, 169, 13]) = true := by rw [← hs0, str_toList]; rfl
  have HZ := Lib.hid (show s0.size = 3 by rw [← hs0]; rfl)
  clear hb0 hL hb hs0
  go_wp2_with fail
  refine (leaf_Cut.ok _ 7 [97, 240, 159, 152, 128, 98, 99] 4 (by decide) (by decide) (by decide) (by unfold Byt; decide) _ (Glob.Globs_alloc (Glob.Globs_below HG.out HB1.out) _) (C_lit w1 5 [97, 240, 159, 152, 128, 98, 99] (7, 8) (by decide)) (by decide)).mono ?_
  rintro e w2 ⟨v, rfl, hR, hb⟩
  have HB2 := Lib.hid (below_step HB1.out ((below_step ((Below.refl _ w1).alloc (Nat.le_refl _) _) hb)))
  have HL2 := Lib.hid (HL1.out.below (below_step ((Below.refl _ w1).alloc (Nat.le_refl _) _) hb))
  rw [fx_cut] at hR
  obtain ⟨g, c, rfl, hlc, hg, hat⟩ := leaves_open hR (by decide)
  obtain ⟨b0, hc0, hL0⟩ := hat 0 (by decide)
  obtain ⟨b1, hc1, hL1⟩ := hat 1 (by decide)
  obtain ⟨b2, hc2, hL2⟩ := hat 2 (by decide)
  have HC0 := Lib.hid hc0
  have HC1 := Lib.hid hc1
  have HC2 := Lib.hid hc2
  obtain ⟨u0, hu0⟩ : ∃ u, strOfNums [97] = u := ⟨_, rfl⟩
  obtain ⟨u1, hu1⟩ : ∃ u, strOfNums [240, 159, 152, 128] = u := ⟨_, rfl⟩
  obtain ⟨u2, hu2⟩ : ∃ u, strOfNums [98, 99] = u := ⟨_, rfl⟩
  replace hL0 : Lf w2 b0 u0 := hu0 ▸ hL0
  replace hL1 : Lf w2 b1 u1 := hu1 ▸ hL1
  replace hL2 : Lf w2 b2 u2 := hu2 ▸ hL2
  have z0 : ((u0.size : Int) == 1) = true := by rw [← hu0]; rfl
  have z1 : ((u1.size : Int) == 4) = true := by rw [← hu1]; rfl
  have z2 : ((u2.size : Int) == 2) = true := by rw [← hu2]; rfl
  have HLA := Lib.hid hL0
  have HLB := Lib.hid hL1
  have HLC := Lib.hid hL2
  have hc3 : 3 ≤ c := hlc
  clear hu0 hu1 hu2
  clear hR hat hg hb hc0 hc1 hc2 hL0 hL1 hL2 hlc
  go_wp2_with fail
  refine (leaf_Before.ok b s0 1 (by rw [HZ.out]; decide) (by rw [HZ.out]; decide) w2 (Glob.Globs_below HG.out HB2.out) HL2.out).mono ?_
  rintro e w3 ⟨rfl, hb3⟩
  obtain ⟨m, hm⟩ : ∃ m, mOf (bytesOf (s0.extract 0 1)) = m := ⟨_, rfl⟩
  have hm5 : m.2.2.2.2.1 = ⟨#[195]⟩ := by rw [← hm, ← HE.out]; exact fx_head
  rw [hm]
  clear hm
  obtain ⟨m1, m2, m3, m4, m5, m6⟩ := m
  dsimp only at hm5
  subst hm5
  have HB3 := Lib.hid hb3
  clear hb3
  go_wp2_with fail
  refine (leaf_Len.keeps b s0 _ ((HL2.out.below HB3.out).alloc _)).mono ?_
  rintro e w4 ⟨rfl, hb4⟩
  have HD := Lib.hid (below_step ((Below.refl _ w3).alloc (Nat.le_refl _) _) hb4)
  have hw := (hb4.block _ (Glob.lt_of_heap (blk_new w3 _))).trans (blk_new w3 _)
  have hx4 : w4.cell? ⟨w3.heap.size, 4, none⟩ = some (.string ⟨#[195]⟩) := blk_cell hw 4
  have hB : Below w2.heap.size w2 w4 := below_step HB3.out HD.out
  have HB4 := Lib.hid hB
  have HL4 := Lib.hid (HL2.out.below hB)
  have HX := Lib.hid hx4
  clear hb4 hw hx4 hB
  have hcv := conv_new w4 s0 (grownCap w4 s0.size 0 5) (by rw [HZ.out]; decide)
  have y4 := bw_cell (w := w) (e := 5) (s := s0) HX.out
  have y0 := bw_cell (w := w) (e := 5) (s := s0) (below_cell HB4.out HC0.out)
  have y1 := bw_cell (w := w) (e := 5) (s := s0) (below_cell HB4.out HC1.out)
  have y2 := bw_cell (w := w) (e := 5) (s := s0) (below_cell HB4.out HC2.out)
  go_wp2_with (first | (go_at_call 17; (with_reducible refine (leaf_Bytes.calls b s0 _ HL4.out).mono ?_); rintro e w' ⟨rfl, rfl⟩) | (go_at_call 12; (with_reducible refine (leaf_Len.calls b0 u0 _ ?side1).mono ?_); (case side1 => exact (HLA.out.below HB4.out).bytes _ _); rintro e w' ⟨rfl, rfl⟩) | (go_at_call 12; (with_reducible refine (leaf_Len.calls b1 u1 _ ?side1).mono ?_); (case side1 => exact (HLB.out.below HB4.out).bytes _ _); rintro e w' ⟨rfl, rfl⟩) | (go_at_call 12; (with_reducible refine (leaf_Len.calls b2 u2 _ ?side1).mono ?_); (case side1 => exact (HLC.out.below HB4.out).bytes _ _); rintro e w' ⟨rfl, rfl⟩))
  go_ret
  exact ⟨rfl, below_step HB2.out (below_step HB4.out (bytes_below w4 s0))⟩
end Go.Proofs.YtiolhoaoepgmcaaDoor.Pr
