/- The walk of the law LeafBorders: borders are edges, sizes add up. Conditions: the slice's cells are the list; step.bad's cells are as laid. -/
import Derived.Test.YtiolhoaoepgmcaaDoorLf5
import Derived.Test.YtiolhoaoepgmcaaDoorPr5
import Derived.Test.YtiolhoaoepgmcaaDoorPr6
namespace Go.Proofs.YtiolhoaoepgmcaaDoor.Pr
open Go.RowKit Go.Proofs.YtiolhoaoepgmcaaDoor.Math Go.Proofs.YtiolhoaoepgmcaaDoor.PuSz Go.Proofs.YtiolhoaoepgmcaaDoor.PuMs Go.Proofs.YtiolhoaoepgmcaaDoorW.PrintWords Go.Proofs.YtiolhoaoepgmcaaDoorW.PrintLast Go.Proofs.YtiolhoaoepgmcaaDoorW.PrintMore
set_option linter.unusedVariables false
set_option linter.unusedSimpArgs false
theorem infoU8b : (Tryd.prog.info? 5).map (fun i => (i.zero, i.size, i.bytes)) = some (some (.int .u8 0), 1, 1) := by kernel_rfl
/-- No encoding over a border: the counts add up. -/
theorem seamR_edge (a b : List Int) (h : ∀ k, 1 ≤ k → k ≤ 3 → k ≤ a.length → lg ((a ++ b).drop (a.length - k)) ≤ k) : seamR a b = (0, 0) := by
  induction a with
  | nil => rfl
  | cons x t ih =>
    have h4 := lg_le (x :: t ++ b)
    have hx : ¬ t.length + 1 < lg (x :: t ++ b) := by
      intro hlt
      have := h (t.length + 1) (by omega) (by omega) (by simp)
      rw [List.length_cons, Nat.sub_self, List.drop_zero] at this
      omega
    rw [seamR, if_neg hx]
    refine ih fun k h1 h3 hk => ?_
    have := h k h1 h3 (by rw [List.length_cons]; omega)
    rw [List.length_cons, show t.length + 1 - k = (t.length - k) + 1 by omega, List.cons_append, List.drop_succ_cons] at this
    exact this
theorem drop_cut (l : List Int) (p z : Nat) (h : p ≤ z) : l.drop p = (l.take z).drop p ++ l.drop z := by
  by_cases hz : z ≤ l.length
  · conv => lhs; rw [← List.take_append_drop z l]
    rw [List.drop_append_of_le_length (by rw [List.length_take]; omega)]
  · rw [List.take_of_length_le (by omega), show l.drop z = [] from List.drop_eq_nil_of_le (by omega), List.append_nil]
theorem border_add (l : List Int) (p z : Nat) (h : p ≤ z) (hz : z ≤ l.length) (he : insB l z = false) : rn (l.drop p) = rn ((l.take z).drop p) + rn (l.drop z) ∧ rn (l.drop p) + fr (l.drop p) = rn ((l.take z).drop p) + fr ((l.take z).drop p) + (rn (l.drop z) + fr (l.drop z)) := by
  have hlen : ((l.take z).drop p).length = z - p := by rw [List.length_drop, List.length_take]; omega
  have hs : seamR ((l.take z).drop p) (l.drop z) = (0, 0) := by
    refine seamR_edge _ _ fun k h1 h3 hk => ?_
    rw [← drop_cut l p z h, hlen, List.drop_drop, show p + (z - p - k) = z - k by omega]
    exact (insB_false l z).1 he k h1 h3 (by omega)
  have := rf_append ((l.take z).drop p) (l.drop z)
  rw [hs, ← drop_cut l p z h] at this
  exact ⟨by simpa using this.1, by simpa using this.2⟩
/-- A piece, and what is behind it. -/
theorem cut_step (l : List Int) (m f p : Nat) (h4 : 4 ≤ m) (hp : p < l.length) (hf : l.length - p < f) : ∃ z rest g, cutF l m f p = (l.take z).drop p :: rest ∧ rest = cutF l m g z ∧ l.length - z < g ∧ p < z ∧ z ≤ l.length ∧ z ≤ p + m ∧ insB l z = false ∧ (rest = [] ∨ p + m ≤ z + 3) := by
  obtain ⟨g, rfl⟩ : ∃ g, f = g + 1 := ⟨f - 1, by omega⟩
  rw [cutF]
  by_cases hlt : m < l.length - p
  · rw [if_pos hlt]
    have hin := cutTo_in l m p (by omega)
    refine ⟨cutTo l m p, _, g, rfl, rfl, by omega, hin.1, by omega, hin.2.1, ?_, Or.inr hin.2.2⟩
    unfold cutTo
    rw [if_pos h4]
    exact flo_edge l _
  · rw [if_neg hlt, if_pos hp]
    refine ⟨l.length, [], g + 1, by rw [List.take_of_length_le (Nat.le_refl _)], ?_, by omega, hp, Nat.le_refl _, by omega, ins_end l, Or.inl rfl⟩
    rw [cutF, if_neg (by omega), if_neg (by omega)]
theorem cut_over (l : List Int) (m f p : Nat) (hp : ¬ p < l.length) (hf : l.length - p < f) : cutF l m f p = [] := by
  obtain ⟨g, rfl⟩ : ∃ g, f = g + 1 := ⟨f - 1, by omega⟩
  rw [cutF, if_neg (by omega), if_neg hp]
theorem cut_nil (l : List Int) (m f p : Nat) (h4 : 4 ≤ m) (hpl : p ≤ l.length) (hf : l.length - p < f) (h : cutF l m f p = []) : p = l.length := by
  by_cases hp : p < l.length
  · obtain ⟨z, rest, g, h1, _⟩ := cut_step l m f p h4 hp hf
    rw [h] at h1
    cases h1
  · omega
theorem leaves_any {W : World} {base : Nat} {ok : Nat → Prop} {v : Value} {ps : List ByteArray} (h : Kd.R kLf 22 W base ok v ps) :
    ∃ A c, v = .slice A ps.length c ∧ ∀ i (hi : i < ps.length), ∃ g b, A = some ⟨g, 0, none⟩ ∧ W.cell? ⟨g, i, none⟩ = some (lfP b) ∧ Lf W b ps[i] := by
  by_cases hn : 0 < ps.length
  · obtain ⟨g, c, rfl, _, _, hat⟩ := leaves_open h hn
    exact ⟨_, c, rfl, fun i hi => by obtain ⟨b, h1, h2⟩ := hat i hi; exact ⟨g, b, rfl, h1, h2⟩⟩
  · obtain ⟨_, inner, ho, hr⟩ := h
    rcases ho.2 with ⟨rfl, h0⟩ | ⟨g, cap, cur, rfl, hg, hh, h1, h2, h3, h4⟩
    · exact ⟨none, 0, by rw [show ps.length = 0 by omega], fun i hi => absurd hi (by omega)⟩
    · exact ⟨_, cap, rfl, fun i hi => absurd hi (by omega)⟩
theorem cutF_len (l : List Int) (m : Nat) (hm : 1 ≤ m) (f : Nat) : ∀ p, (cutF l m f p).length + p ≤ max p l.length := by
  induction f with
  | zero => intro p; simp [cutF]; omega
  | succ f ih =>
    intro p
    have hin := cutTo_in l m p hm
    have := ih (cutTo l m p)
    rw [cutF]
    split
    · rw [List.length_cons]; omega
    · split <;> simp <;> omega
theorem cutP_len (l : List Int) (m : Nat) (hm : 1 ≤ m) : (cutP l m).length ≤ l.length := by
  have := cutF_len l m hm (l.length + 1) 0
  unfold cutP
  omega
theorem weld_at (b : Nat) (s : ByteArray) (m1 m2 m3 m4 : Int) (m5 m6 : ByteArray) (w : World) (h : Lf w b s) (hm : mOf (bytesOf s) = (m1, m2, m3, m4, m5, m6)) : Calls Tryd.prog 13 #[lfP b] w fun e w' => e = .returned (.agg #[.int .i64 m1, .int .i64 m2, .int .i64 m3, .int .i64 m4, .string m5, .string m6]) ∧ Below w.heap.size w w' := by
  have := leaf_Weld.calls b s w h
  rw [hm] at this
  exact this
theorem field_sizes (i1 i2 i3 i4 : Int) (s1 s2 : ByteArray) (w : World) : Sem.run Tryd.prog (Instr.field 36 (.agg #[.int .i64 i1, .int .i64 i2, .int .i64 i3, .int .i64 i4, .string s1, .string s2]) 0) w = .ok (.agg #[.int .i64 i1, .int .i64 i2, .int .i64 i3, .int .i64 i4]) w := by rfl
theorem field_runes (i1 i2 i3 i4 : Int) (w : World) : Sem.run Tryd.prog (Instr.field 34 (.agg #[.int .i64 i1, .int .i64 i2, .int .i64 i3, .int .i64 i4]) 1) w = .ok (.int .i64 i2) w := by rfl
theorem field_units (i1 i2 i3 i4 : Int) (w : World) : Sem.run Tryd.prog (Instr.field 34 (.agg #[.int .i64 i1, .int .i64 i2, .int .i64 i3, .int .i64 i4]) 2) w = .ok (.int .i64 i3) w := by rfl
/-- The law's refusals: most is no limit. -/
theorem refEdge_at (A : Option Addr) (c : Nat) (l : List Int) (p : Nat) (hb : Byt l) (hl : l.length ≤ 268435456) (hp : p ≤ l.length) (he : insB l p = false) (w : World) (hr : Kd.C (Kd.int .u8) w A l.length l) (hc : l.length ≤ c) :
    Calls Tryd.prog 11 #[.slice A l.length c, .int .i64 (p : Int)] w fun e w' => e = .returned (.bool true) ∧ Drawn0 w w' := by
  refine galleyref02_Edge.calls 7 A c l (p : Int) true w hr hc ?_
  unfold galleyref02_Edge.f
  rw [if_pos (by omega), if_pos (by omega), inside_eq 0 l hb (by omega) p (by omega), he]
  rfl
theorem refSizes_at (A : Option Addr) (c : Nat) (l : List Int) (hb : Byt l) (hl : l.length ≤ 268435456) (w : World) (hr : Kd.C (Kd.int .u8) w A l.length l) (hc : l.length ≤ c) :
    Calls Tryd.prog 14 #[.slice A l.length c] w fun e w' => e = .returned (.agg #[.int .i64 (l.length : Int), .int .i64 (rn l), .int .i64 (rn l + fr l), .int .i64 (en 0 l)]) ∧ Below w.heap.size w w' :=
  galleyref05_Sizes.calls (2 * l.length + 12) A c l _ _ _ _ w hr hc (refSizes_eq _ l hb (by omega) (Nat.le_refl _))
set_option maxHeartbeats 8000000 in
set_option maxRecDepth 100000 in
theorem law_LeafBorders.low (A : Option Addr) (c : Nat) (l : List Int) (hby : Byt l) (m : Int) (hm : m < 4) (w : World) (hG : Glob.Globs w) (hr : Kd.C (Kd.int .u8) w A l.length l) (hc : l.length ≤ c) (hll : l.length ≤ 140737488351232) :
    Calls Tryd.prog 4 #[.slice A l.length c, .int .i64 m] w fun e w' => e = .returned (.bool true) ∧ Below w.heap.size w w' := by
  have HG := Lib.hid hG
  have HR := Lib.hid hr
  have HC := Lib.hid hc
  have HY := Lib.hid hby
  have HL := Lib.hid hll
  have t1 : decide (m < 4) = true := decide_eq_true hm
  clear hG hr hc hby hll hm
  go_enter Tryd.func4, Tryd.ntmps4
  go_wp2_with (first | (go_at_call 10; (with_reducible refine (law_fixed.calls _ HG.out).mono ?_); rintro e w1 ⟨rfl, hb1⟩; have HB1 := Lib.hid hb1; clear hb1))
  go_ret
  exact ⟨rfl, HB1.out⟩
set_option maxHeartbeats 8000000 in
set_option maxRecDepth 100000 in
theorem law_LeafBorders.high (A : Option Addr) (c : Nat) (l : List Int) (hby : Byt l) (m : Int) (hm : ¬ m < 4) (hm2 : 4096 < m) (w : World) (hG : Glob.Globs w) (hr : Kd.C (Kd.int .u8) w A l.length l) (hc : l.length ≤ c) (hll : l.length ≤ 140737488351232) :
    Calls Tryd.prog 4 #[.slice A l.length c, .int .i64 m] w fun e w' => e = .returned (.bool true) ∧ Below w.heap.size w w' := by
  have HG := Lib.hid hG
  have HR := Lib.hid hr
  have HC := Lib.hid hc
  have HY := Lib.hid hby
  have HL := Lib.hid hll
  have t1 : decide (m < 4) = false := decide_eq_false hm
  have t2 : decide (4096 < m) = true := decide_eq_true hm2
  clear hG hr hc hby hll hm hm2
  go_enter Tryd.func4, Tryd.ntmps4
  go_wp2_with (first | (go_at_call 10; (with_reducible refine (law_fixed.calls _ HG.out).mono ?_); rintro e w1 ⟨rfl, hb1⟩; have HB1 := Lib.hid hb1; clear hb1))
  go_ret
  exact ⟨rfl, HB1.out⟩
set_option maxHeartbeats 8000000 in
set_option maxRecDepth 100000 in
theorem law_LeafBorders.long (A : Option Addr) (c : Nat) (l : List Int) (hby : Byt l) (m : Nat) (hm : 4 ≤ m) (hm2 : m ≤ 4096) (hx : 268435456 < l.length) (w : World) (hG : Glob.Globs w) (hr : Kd.C (Kd.int .u8) w A l.length l) (hc : l.length ≤ c) (hll : l.length ≤ 140737488351232) :
    Calls Tryd.prog 4 #[.slice A l.length c, .int .i64 (m : Int)] w fun e w' => e = .returned (.bool true) ∧ Below w.heap.size w w' := by
  have HG := Lib.hid hG
  have HR := Lib.hid hr
  have HC := Lib.hid hc
  have HY := Lib.hid hby
  have HL := Lib.hid hll
  have t1 : decide ((m : Int) < 4) = false := decide_eq_false (by omega)
  have t2 : decide (4096 < (m : Int)) = false := decide_eq_false (by omega)
  have t3 : decide ((268435456 : Int) < (l.length : Int)) = true := decide_eq_true (by omega)
  have HM := Lib.hid (show 1 ≤ (m : Int) ∧ (m : Int) ≤ 4096 by omega)
  have HX := Lib.hid hx
  have HXM := Lib.hid (show l.length ≤ 9223372036854775807 by omega)
  clear hG hr hc hby hll hm hm2 hx
  go_enter Tryd.func4, Tryd.ntmps4
  go_wp2_with (first | (go_at_call 10; (with_reducible refine (law_fixed.calls _ HG.out).mono ?_); rintro e w1 ⟨rfl, hb1⟩; have HB1 := Lib.hid hb1; clear hb1) | ((with_reducible refine gate_dst (N := 22) rfl ?_); refine Kd.R_lit (Kd.int .u8) _ 5 ?hg (N := 22) ?hd (xs := ([] : List Int)) (inner := []) (ok := fun _ => True) (okp := fun _ => True) ?hr ?hp (fun _ hk => hk) trivial (Below.refl _ _) (Nat.le_refl _) (by simp) ?_; (case hd => rfl); (case hg => rfl); (case hr => first | (go_simp; done) | (go_simp; rfl)); (case hp => exact (Reps.none _ _)); intro v1 w2 ho hb hg_ hnew_; have HO2 := Lib.hid ho; have HB2 := Lib.hid hb; clear ho hb hg_ hnew_) | ((with_reducible refine gate_builtin (b := .append) (xs := #[.tmp 22, .tmp 23]) rfl ?_); at_builtin; refine Kd.R_append_rows (Kd.int .u8) (w0 := w1) w1.heap.size rfl (.tmp 22) (.tmp 23) 26 5 (.int .u8 0) 1 rfl Tryd.underlying26 infoU8b rfl (by decide) (by decide) v1 ([] : List Int) l _ _ _ (fun _ => True) (fun _ => False) rfl rfl ?aO ?aR (fun _ _ h => h) (fun _ h => h.elim) ?aF ?aB ?aS ?aL ?_; (case aR => exact Kd.C_below HR.out (below_step HB1.out HB2.out)); (case aB => exact HB2.out); (case aF => exact (fun _ _ => trivial)); (case aO => exact HO2.out); (case aS => exact (HB2.out).size); (case aL => exact by have := HL.out; simp; omega); intro v2 w3 ho hb hg hat; rw [List.nil_append] at ho; obtain ⟨Ax, cx, hx⟩ := Kd.R_slice ho; subst hx; have HO3 := Lib.hid (Kd.R_reads' ho); have HB3 := Lib.hid (below_step HB1.out hb); clear ho hb hg hat) | (go_at_call 9; (with_reducible refine (leaf_Cut.long _ _ _ _ HM.out HX.out HXM.out _).mono ?_); rintro e w' ⟨rfl, rfl⟩))
  go_ret
  exact ⟨rfl, HB3.out⟩
set_option maxHeartbeats 8000000 in
set_option maxRecDepth 100000 in
theorem law_LeafBorders.ok (A : Option Addr) (c : Nat) (l : List Int) (hby : Byt l) (m : Nat) (hm : 4 ≤ m) (hm2 : m ≤ 4096) (hx : l.length ≤ 268435456) (w : World) (hG : Glob.Globs w) (hr : Kd.C (Kd.int .u8) w A l.length l) (hc : l.length ≤ c) (hll : l.length ≤ 140737488351232) :
    Calls Tryd.prog 4 #[.slice A l.length c, .int .i64 (m : Int)] w fun e w' => e = .returned (.bool true) ∧ Below w.heap.size w w' := by
  have HG := Lib.hid hG
  have HR := Lib.hid hr
  have HC := Lib.hid hc
  have HY := Lib.hid hby
  have HL := Lib.hid hll
  have t1 : decide ((m : Int) < 4) = false := decide_eq_false (by omega)
  have t2 : decide (4096 < (m : Int)) = false := decide_eq_false (by omega)
  have HM := Lib.hid (show 4 ≤ m ∧ m ≤ 4096 by omega)
  have HM1 := Lib.hid (show 1 ≤ m by omega)
  have HX := Lib.hid hx
  clear hG hr hc hby hll hm hm2 hx
  go_enter Tryd.func4, Tryd.ntmps4
  go_wp2_with (first | (go_at_call 10; (with_reducible refine (law_fixed.calls _ HG.out).mono ?_); rintro e w1 ⟨rfl, hb1⟩; have HB1 := Lib.hid hb1; clear hb1) | ((with_reducible refine gate_dst (N := 22) rfl ?_); refine Kd.R_lit (Kd.int .u8) _ 5 ?hg (N := 22) ?hd (xs := ([] : List Int)) (inner := []) (ok := fun _ => True) (okp := fun _ => True) ?hr ?hp (fun _ hk => hk) trivial (Below.refl _ _) (Nat.le_refl _) (by simp) ?_; (case hd => rfl); (case hg => rfl); (case hr => first | (go_simp; done) | (go_simp; rfl)); (case hp => exact (Reps.none _ _)); intro v1 w2 ho hb hg_ hnew_; have HO2 := Lib.hid ho; have HB2 := Lib.hid hb; clear ho hb hg_ hnew_) | ((with_reducible refine gate_builtin (b := .append) (xs := #[.tmp 22, .tmp 23]) rfl ?_); at_builtin; refine Kd.R_append_rows (Kd.int .u8) (w0 := w1) w1.heap.size rfl (.tmp 22) (.tmp 23) 26 5 (.int .u8 0) 1 rfl Tryd.underlying26 infoU8b rfl (by decide) (by decide) v1 ([] : List Int) l _ _ _ (fun _ => True) (fun _ => False) rfl rfl ?aO ?aR (fun _ _ h => h) (fun _ h => h.elim) ?aF ?aB ?aS ?aL ?_; (case aR => exact Kd.C_below HR.out (below_step HB1.out HB2.out)); (case aB => exact HB2.out); (case aF => exact (fun _ _ => trivial)); (case aO => exact HO2.out); (case aS => exact (HB2.out).size); (case aL => exact by have := HL.out; simp; omega); intro v2 w3 ho hb hg hat; rw [List.nil_append] at ho; obtain ⟨Ax, cx, hx⟩ := Kd.R_slice ho; subst hx; have HO3 := Lib.hid (Kd.R_reads' ho); have HB3 := Lib.hid (below_step HB1.out hb); clear ho hb hg hat) | (go_at_call 9; (with_reducible refine (leaf_Cut.ok _ _ l m HM1.out HM.out.2 HX.out HY.out _ ?side1 ?side2 HO3.out.2.1).mono ?_); (case side1 => exact Glob.Globs_below HG.out HB3.out); (case side2 => exact HO3.out.2.2); rintro e w4 ⟨v4, rfl, hR, hb⟩; obtain ⟨Al, cl, hvl, hat⟩ := leaves_any hR; obtain ⟨n, hn⟩ : ∃ n, ((cutP l m).map strOfNums).length = n := ⟨_, rfl⟩; rw [hn] at hvl; subst hvl; have HNN := Lib.hid hn; have HAT := Lib.hid hat; have HB4 := Lib.hid (below_step HB3.out hb); have HPL := Lib.hid (cutP_len l m HM1.out); clear hR hb hat hn))
  go_loopw [7, 8, 9, 36] (fun v7 v8 v9 v36 wr => ∃ (i p f : Nat) (x8 x9 : Int), v7 = .int .i64 (p : Int) ∧ v8 = .int .i64 x8 ∧ v9 = .int .i64 x9 ∧ v36 = .int .i64 (i : Int) ∧ Hid (p ≤ l.length ∧ l.length - p < f ∧ insB l p = false ∧ i ≤ n) ∧ Hid (x8 = rn l - rn (l.drop p) ∧ x9 = rn l + fr l - (rn (l.drop p) + fr (l.drop p))) ∧ Hid ((cutP l m).drop i = cutF l m f p) ∧ Hid (Below w4.heap.size w4 wr))
    (fun _ _ _ i _ => n - (intOf i).toNat)
  case atStart => exact ⟨0, 0, l.length + 1, 0, 0, rfl, rfl, rfl, rfl, Lib.hid ⟨by omega, by omega, insB_zero l, by omega⟩, Lib.hid (by rw [List.drop_zero]; omega), Lib.hid rfl, Lib.hid (Below.refl _ _)⟩
  case round =>
    obtain ⟨i, p, f, x8, x9, rfl, rfl, rfl, rfl, HP, HX8, HS, HB⟩ := hrel
    by_cases hi : i < n
    · have q1 : decide ((i : Int) < (n : Int)) = true := decide_eq_true (by omega)
      have hn := HNN.out
      have hi' : i < ((cutP l m).map strOfNums).length := by omega
      obtain ⟨g, b, rfl, hcell, hL⟩ := HAT.out i hi'
      have hce := below_cell HB.out hcell
      have hpl : p < l.length := by
        refine Decidable.byContradiction fun hn => ?_
        have h0 := HS.out
        rw [cut_over l m f p hn HP.out.2.1] at h0
        have h1 := congrArg List.length h0
        rw [List.length_drop, List.length_nil] at h1
        rw [List.length_map] at hi'
        omega
      obtain ⟨z, rest, f', hc1, hc2, hf', hpz, hzl, hzm, hze, hlast⟩ := cut_step l m f p HM.out.1 hpl HP.out.2.1
      have hdl := HS.out
      rw [hc1] at hdl
      have hi2 : i < (cutP l m).length := by rw [List.length_map] at hi'; exact hi'
      have hcons := List.drop_eq_getElem_cons hi2
      rw [hdl] at hcons
      have hpi : (cutP l m)[i] = (l.take z).drop p := (List.cons.inj hcons).1.symm
      have hrest : (cutP l m).drop (i + 1) = cutF l m f' z := by rw [← (List.cons.inj hcons).2, hc2]
      have hlen1 : (cutP l m).length = i + 1 + rest.length := by
        have := congrArg List.length hdl
        rw [List.length_drop, List.length_cons] at this
        omega
      obtain ⟨pc, hpc⟩ : ∃ pc, (l.take z).drop p = pc := ⟨_, rfl⟩
      have hplen : pc.length = z - p := by rw [← hpc, List.length_drop, List.length_take]; omega
      have hadd := border_add l p z (by omega) hzl hze
      rw [hpc] at hadd hpi
      have hpy : Byt pc := by rw [← hpc]; exact (HY.out.take z).drop p
      have hsx : ((cutP l m).map strOfNums)[i] = strOfNums pc := by rw [List.getElem_map, hpi]
      rw [hsx] at hL
      obtain ⟨s, hs⟩ : ∃ s, strOfNums pc = s := ⟨_, rfl⟩
      have hbs : bytesOf s = pc := by rw [← hs]; exact bo_str pc hpy
      have hsz : s.size = z - p := by rw [← hplen, ← hs]; exact sz_str pc
      rw [hs] at hL
      have HLS := Lib.hid (hL.below HB.out)
      have HBS := Lib.hid hbs
      have hnl : n = i + 1 + rest.length := by rw [← hn, List.length_map]; exact hlen1
      have hnb : n ≤ 268435456 := by have := HPL.out; have := HX.out; rw [List.length_map] at hn; omega
      have bz := rn_bounds (l.drop z)
      have bp := rn_bounds (l.drop p)
      have bc := rn_bounds pc
      have bl := rn_bounds l
      have hxl := HX.out
      rw [List.length_drop] at bz bp
      have hx8 := HX8.out
      obtain ⟨M, hM⟩ : ∃ M, mOf pc = M := ⟨_, rfl⟩
      have hM2 : M.2.1 = rn pc := by rw [← hM]; rfl
      have hM3 : M.2.2.1 = rn pc + fr pc := by rw [← hM]; rfl
      have HMM := Lib.hid (show mOf (bytesOf s) = M by rw [hbs]; exact hM)
      clear hM
      obtain ⟨m1, m2, m3, m4, m5, m6⟩ := M
      dsimp only at hM2 hM3
      have HN8 := Lib.hid (show x8 + m2 = rn l - rn (l.drop z) ∧ x9 + m3 = rn l + fr l - (rn (l.drop z) + fr (l.drop z)) by omega)
      have u1 : (-300000000 : Int) ≤ x8 := by omega
      have u2 : x8 ≤ 300000000 := by omega
      have u3 : (-300000000 : Int) ≤ x9 := by omega
      have u4 : x9 ≤ 600000000 := by omega
      have u5 : 0 ≤ m2 := by omega
      have u6 : m2 ≤ 300000000 := by omega
      have u7 : 0 ≤ m3 := by omega
      have u8 : m3 ≤ 600000000 := by omega
      have HFIN := Lib.hid (show z ≤ l.length ∧ l.length - z < f' ∧ insB l z = false ∧ i + 1 ≤ n from ⟨hzl, hf', hze, by omega⟩)
      have HRST := Lib.hid hrest
      have e1 : s.size ≤ m := by omega
      have e2 : 1 ≤ s.size := by omega
      have e3 : ¬ ((s.size : Int) < (m : Int) - 3 ∧ (i : Int) + 1 < (n : Int)) := by
        rcases hlast with h | h
        · rw [h] at hnl; simp at hnl; omega
        · omega
      have HPE := Lib.hid HP.out.2.2.1
      have HPP := Lib.hid HP.out.1
      have p1 : (p : Int) ≤ 268435456 := by have := HP.out.1; omega
      have p2 : (s.size : Int) ≤ 268435456 := by omega
      have p3 : (i : Int) ≤ 268435456 := by omega
      have p4 : (p : Int) + (s.size : Int) = (z : Int) := by omega
      have HP4 := Lib.hid p4
      have p5 : (m : Int) ≤ 4096 := by have := HM.out; omega
      have p6 : (4 : Int) ≤ (m : Int) := by have := HM.out; omega
      have hfs := field_sizes m1 m2 m3 m4 m5 m6
      have hfr := field_runes m1 m2 m3 m4
      have hfu := field_units m1 m2 m3 m4
      clear hM2 hM3 bz bp bc bl hx8 hnl hnb hlast hlen1 hrest hcons hpi hdl hc1 hc2 hf' hpz hzl hzm hze hpc hplen hadd hpy hsx hs hbs hsz hn hcell hL hi' hi2 hpl hxl p4
      go_wp2_with (first | (go_at_call 11; (with_reducible refine (refEdge_at A c l p HY.out HX.out HPP.out HPE.out _ ?side1 HC.out).mono ?_); (case side1 => exact Kd.C_below HR.out (below_step HB4.out HB.out)); rintro e w6 ⟨rfl, hd⟩; obtain ⟨⟨nd, rfl⟩⟩ := hd) | (go_at_call 12; (with_reducible refine (leaf_Len.calls b s _ ?side1).mono ?_); (case side1 => first | exact HLS.out | exact HLS.out.drew | exact HLS.out.drewN _ | exact HLW.out); rintro e w' ⟨rfl, rfl⟩) | (go_at_call 13; (with_reducible refine (weld_at b s m1 m2 m3 m4 m5 m6 _ HL6.out HMM.out).mono ?_); rintro e w7 ⟨rfl, hb7⟩; have HB7 := Lib.hid (below_step HB6.out hb7); clear hb7) | (go_at_call 13; (with_reducible refine (weld_at b s m1 m2 m3 m4 m5 m6 _ (HLS.out.drewN nd) HMM.out).mono ?_); rintro e w6 ⟨rfl, hb6⟩; have HL6 := Lib.hid ((HLS.out.drewN nd).below hb6); have HB6 := Lib.hid (below_step ((Drawn0.refl wr).step nd).below hb6); clear hb6) | (exfalso; omega))
      all_goals (try (exfalso; omega))
      all_goals go_roundw
      all_goals first
        | exact ⟨i + 1, z, f', x8 + m2, x9 + m3, by rw [HP4.out], rfl, rfl, by simp, HFIN, HN8, HRST, Lib.hid (below_step HB.out HB7.out)⟩
        | (simp [intOf]; omega)
    · have hie : i = n := by have := HP.out.2.2.2; omega
      have hpe : p = l.length := by
        refine cut_nil l m f p HM.out.1 HP.out.1 HP.out.2.1 ?_
        rw [← HS.out, hie]
        refine List.drop_eq_nil_of_le ?_
        have := HNN.out
        rw [List.length_map] at this
        omega
      have hx8 := HX8.out
      rw [hpe, List.drop_length] at hx8
      have h8 : x8 = rn l := by have := hx8.1; simp [rn] at this; exact this
      have h9 : x9 = rn l + fr l := by have := hx8.2; simp [rn, fr] at this; exact this
      subst h8 h9
      subst hpe hie
      clear hx8
      go_wp2_with (first | (go_at_call 14; (with_reducible refine (refSizes_at A c l HY.out HX.out _ ?side1 HC.out).mono ?_); (case side1 => exact Kd.C_below HR.out (below_step HB4.out HB.out)); rintro e w8 ⟨rfl, hb8⟩; have HB8 := Lib.hid (below_step (below_step HB4.out HB.out) hb8); clear hb8))
      go_ret
      exact ⟨rfl, HB8.out.alloc HB8.out.size _⟩
theorem law_LeafBorders.walk (_ : True) (a0 : Option Addr) (len0 cap0 : Nat) (z0 : List Int) (most : Int) (w : World) (hG : Glob.Globs w) (w0 : RowU8 w a0 len0 cap0 z0) (y0 : len0 * 1 ≤ 140737488351232) (_ : (Lit.int .i64 most).wf = true) :
    Calls Tryd.prog 4 #[.slice a0 len0 cap0, .int .i64 most] w fun e w' => e = .returned (.bool true) ∧ Below w.heap.size w w' := by
  obtain ⟨l, rfl, hr, hc, hy, hl⟩ := w0.open y0
  by_cases h1 : most < 4
  · exact law_LeafBorders.low a0 cap0 l hy most h1 w hG hr hc hl
  · by_cases h2 : 4096 < most
    · exact law_LeafBorders.high a0 cap0 l hy most h1 h2 w hG hr hc hl
    · obtain ⟨m, rfl⟩ := Int.eq_ofNat_of_zero_le (show 0 ≤ most by omega)
      by_cases h3 : l.length ≤ 268435456
      · exact law_LeafBorders.ok a0 cap0 l hy m (by omega) (by omega) h3 w hG hr hc hl
      · exact law_LeafBorders.long a0 cap0 l hy m (by omega) (by omega) (by omega) w hG hr hc hl
end Go.Proofs.YtiolhoaoepgmcaaDoor.Pr
