/- Part 4 of the lemmas on which the card leafParts_card stands (its sentence and conditions stand in the last text). Conditions: as each lemma says. -/
import Derived.Test.YteoonhidjldnfaaDoorKParts3
import Derived.Deep.RegionHeld3
import Derived.SizedLaws
import Derived.ChangeSlices
namespace Go.Proofs.YteoonhidjldnfaaDoor.Pr
open Go.RowKit Go.Proofs.YteoonhidjldnfaaDoor.Math Go.Proofs.YteoonhidjldnfaaDoor.PuMs Go.Proofs.YteoonhidjldnfaaDoor.PuOf Go.Proofs.YteoonhidjldnfaaDoorW.PrintWords Go.Proofs.YteoonhidjldnfaaDoorW.PrintLast Go.Proofs.YteoonhidjldnfaaDoorW.PrintMore
set_option linter.unusedVariables false
set_option linter.unusedSimpArgs false
theorem two_blk {W : World} {b c : Nat} {i1 i2 i3 i4 : Int} {s1 s2 : ByteArray} {j1 j2 j3 j4 : Int} {t1 t2 : ByteArray} {T : TypeId} (h : W.heap[b]? = some (.cells #[.int .i64 i1, .int .i64 i2, .int .i64 i3, .int .i64 i4, .string s1, .string s2] T (0, 0))) (h' : W.heap[c]? = some (.cells #[.int .i64 j1, .int .i64 j2, .int .i64 j3, .int .i64 j4, .string t1, .string t2] T (0, 0))) :
    W.cell? ⟨b, 0, none⟩ = some (.int .i64 i1) ∧ W.cell? ⟨b, 1, none⟩ = some (.int .i64 i2) ∧ W.cell? ⟨b, 2, none⟩ = some (.int .i64 i3) ∧ W.cell? ⟨b, 3, none⟩ = some (.int .i64 i4) ∧ W.cell? ⟨b, 4, none⟩ = some (.string s1) ∧ W.cell? ⟨b, 5, none⟩ = some (.string s2) ∧ W.cell? ⟨c, 0, none⟩ = some (.int .i64 j1) ∧ W.cell? ⟨c, 1, none⟩ = some (.int .i64 j2) ∧ W.cell? ⟨c, 2, none⟩ = some (.int .i64 j3) ∧ W.cell? ⟨c, 3, none⟩ = some (.int .i64 j4) ∧ W.cell? ⟨c, 4, none⟩ = some (.string t1) ∧ W.cell? ⟨c, 5, none⟩ = some (.string t2) :=
  ⟨blk_cell h 0, blk_cell h 1, blk_cell h 2, blk_cell h 3, blk_cell h 4, blk_cell h 5, blk_cell h' 0, blk_cell h' 1, blk_cell h' 2, blk_cell h' 3, blk_cell h' 4, blk_cell h' 5⟩
theorem infoU8 : (Tryd.prog.info? 5).map (fun i => (i.zero, i.size, i.bytes)) = some (some (.int .u8 0), 1, 1) := by kernel_rfl
theorem weld_at2 (b : Nat) (s : ByteArray) (m1 m2 m3 m4 : Int) (m5 m6 : ByteArray) (w : World) (h : Lf w b s) (hm : mOf (bytesOf s) = (m1, m2, m3, m4, m5, m6)) : Calls Tryd.prog 15 #[lfP b] w fun e w' => e = .returned (.agg #[.int .i64 m1, .int .i64 m2, .int .i64 m3, .int .i64 m4, .string m5, .string m6]) ∧ Below w.heap.size w w' := by
  have := leaf_Weld.calls b s w h
  rw [hm] at this
  exact this
theorem before_at (b : Nat) (s : ByteArray) (n : Nat) (hn : n ≤ s.size) (hs : s.size ≤ 268435456) (m1 m2 m3 m4 : Int) (m5 m6 : ByteArray) (hm : mOf (bytesOf (s.extract 0 n)) = (m1, m2, m3, m4, m5, m6)) (w : World) (hG : Glob.Globs w) (h : Lf w b s) :
    Calls Tryd.prog 17 #[lfP b, .int .i64 (n : Int)] w fun e w' => e = .returned (.tuple #[.agg #[.int .i64 m1, .int .i64 m2, .int .i64 m3, .int .i64 m4, .string m5, .string m6], .int .i64 0]) ∧ Below w.heap.size w w' := by
  have := leaf_Before.ok b s n hn hs w hG h
  rw [hm] at this
  exact this
theorem refOf_at (A : Option Addr) (n c : Nat) (l : List Int) (w : World) (hn : l.length = n) (hb : Byt l) (hl : n ≤ 268435456) (m1 m2 m3 m4 : Int) (m5 m6 : ByteArray) (hm : mOf l = (m1, m2, m3, m4, m5, m6)) (hr : Kd.C (Kd.int .u8) w A l.length l) (hc : n ≤ c) :
    Calls Tryd.prog 25 #[.slice A n c] w fun e w' => e = .returned (.agg #[.int .i64 m1, .int .i64 m2, .int .i64 m3, .int .i64 m4, .string m5, .string m6]) ∧ Below w.heap.size w w' := by
  have := refOf_any A n c l w hn hb hl hr hc
  rw [hm] at this
  exact this
theorem wjoin_at (p q : List Int) (hp : Byt p) (hq : Byt q) (hl : p.length + q.length ≤ 268435456) (p1 p2 p3 p4 : Int) (p5 p6 : ByteArray) (q1 q2 q3 q4 : Int) (q5 q6 : ByteArray) (m1 m2 m3 m4 : Int) (m5 m6 : ByteArray)
    (h1 : mOf p = (p1, p2, p3, p4, p5, p6)) (h2 : mOf q = (q1, q2, q3, q4, q5, q6)) (h3 : mOf (p ++ q) = (m1, m2, m3, m4, m5, m6)) (w : World) (hG : Glob.Globs w) :
    Calls Tryd.prog 26 #[.agg #[.int .i64 p1, .int .i64 p2, .int .i64 p3, .int .i64 p4, .string p5, .string p6], .agg #[.int .i64 q1, .int .i64 q2, .int .i64 q3, .int .i64 q4, .string q5, .string q6]] w fun e w' => e = .returned (.tuple #[.agg #[.int .i64 m1, .int .i64 m2, .int .i64 m3, .int .i64 m4, .string m5, .string m6], .int .i64 0]) ∧ Below w.heap.size w w' := by
  have := join_of 120 (by decide) p q hp hq hl
  rw [h1, h2, h3] at this
  exact weld_Join.calls 120 _ _ _ _ _ _ _ _ _ _ _ _ _ _ _ _ _ _ _ w hG this
theorem cut_two (l : List Int) (hb : Byt l) (n : Nat) (hn : n ≤ l.length) : ∃ (p q : List Int) (s sp sq : ByteArray), strOfNums l = s ∧ s.extract 0 n = sp ∧ s.extract n s.size = sq ∧ l.take n = p ∧ l.drop n = q ∧ p ++ q = l ∧ Byt p ∧ Byt q ∧ p.length = n ∧ q.length = l.length - n ∧ bytesOf s = l ∧ bytesOf sp = p ∧ bytesOf sq = q ∧ bytesOf (sp ++ sq) = l ∧ s.size = l.length ∧ sp.size = n ∧ sq.size = l.length - n := by
  have e1 : bytesOf (strOfNums l) = l := bo_str l hb
  have e2 : bytesOf ((strOfNums l).extract 0 n) = l.take n := by rw [bo_extract, e1, List.drop_zero, Nat.sub_zero]
  have e3 : bytesOf ((strOfNums l).extract n (strOfNums l).size) = l.drop n := by rw [ex_tail, e1]
  refine ⟨_, _, _, _, _, rfl, rfl, rfl, rfl, rfl, List.take_append_drop n l, hb.take n, hb.drop n, by rw [List.length_take]; omega, List.length_drop, e1, e2, e3, by rw [bo_append, e2, e3, List.take_append_drop], sz_str l, ?_, ?_⟩
  · rw [← bytesOf_length, e2, List.length_take]; omega
  · rw [← bytesOf_length, e3, List.length_drop]
set_option maxHeartbeats 8000000 in
set_option maxRecDepth 100000 in
theorem law_LeafParts.long (A : Option Addr) (c : Nat) (l : List Int) (hby : Byt l) (n : Int) (hx : 4096 < l.length) (w : World) (hG : Glob.Globs w) (hr : Kd.C (Kd.int .u8) w A l.length l) (hc : l.length ≤ c) (hll : l.length ≤ 140737488351232) :
    Calls Tryd.prog 9 #[.slice A l.length c, .int .i64 n] w fun e w' => e = .returned (.bool true) ∧ Below w.heap.size w w' := by
  have HG := Lib.hid hG
  have HR := Lib.hid hr
  have HC := Lib.hid hc
  have HY := Lib.hid hby
  have HL := Lib.hid hll
  have t1 : decide ((4096 : Int) < (l.length : Int)) = true := decide_eq_true (by omega)
  have HX := Lib.hid hx
  have HXM := Lib.hid (show l.length ≤ 9223372036854775807 by omega)
  clear hG hr hc hby hll hx
  go_enter Tryd.func9, Tryd.ntmps9
  go_wp2_with (first | (go_at_call 12; (with_reducible refine (law_fixed.calls _ HG.out).mono ?_); rintro e w1 ⟨rfl, hb1⟩; have HB1 := Lib.hid hb1; clear hb1) | ((with_reducible refine gate_dst (N := 19) rfl ?_); refine Kd.R_lit (Kd.int .u8) _ 5 ?hg (N := 19) ?hd (xs := ([] : List Int)) (inner := []) (ok := fun _ => True) (okp := fun _ => True) ?hr ?hp (fun _ hk => hk) trivial (Below.refl _ _) (Nat.le_refl _) (by simp) ?_; (case hd => rfl); (case hg => rfl); (case hr => first | (go_simp; done) | (go_simp; rfl)); (case hp => exact (Reps.none _ _)); intro v1 w2 ho hb hg_ hnew_; have HO2 := Lib.hid ho; have HB2 := Lib.hid hb; clear ho hb hg_ hnew_) | ((with_reducible refine gate_builtin (b := .append) (xs := #[.tmp 19, .tmp 20]) rfl ?_); at_builtin; refine Kd.R_append_rows (Kd.int .u8) (w0 := w1) w1.heap.size rfl (.tmp 19) (.tmp 20) 26 5 (.int .u8 0) 1 rfl Tryd.underlying26 infoU8 rfl (by decide) (by decide) v1 ([] : List Int) l _ _ _ (fun _ => True) (fun _ => False) rfl rfl ?aO ?aR (fun _ _ h => h) (fun _ h => h.elim) ?aF ?aB ?aS ?aL ?_; (case aR => exact Kd.C_below HR.out (below_step HB1.out HB2.out)); (case aB => exact HB2.out); (case aF => exact (fun _ _ => trivial)); (case aO => exact HO2.out); (case aS => exact (HB2.out).size); (case aL => exact by have := HL.out; simp; omega); intro v2 w3 ho hb hg hat; (first | rw [List.nil_append] at ho | rw [HLC.out] at ho); obtain ⟨Ax, cx, hx⟩ := Kd.R_slice ho; subst hx; have HO3 := Lib.hid (Kd.R_reads' ho); have HB3 := Lib.hid (below_step HB1.out hb); clear ho hb hg hat) | (go_at_call 10; (with_reducible refine (leaf_New.long _ _ _ HX.out HXM.out _).mono ?_); rintro e w' ⟨rfl, rfl⟩; skip))
  go_ret
  exact ⟨rfl, HB3.out⟩
set_option maxHeartbeats 8000000 in
set_option maxRecDepth 100000 in
theorem law_LeafParts.bad (A : Option Addr) (c : Nat) (l : List Int) (hby : Byt l) (n : Int) (hx : l.length ≤ 4096) (hn : n < 0 ∨ (l.length : Int) < n) (w : World) (hG : Glob.Globs w) (hr : Kd.C (Kd.int .u8) w A l.length l) (hc : l.length ≤ c) (hll : l.length ≤ 140737488351232) :
    Calls Tryd.prog 9 #[.slice A l.length c, .int .i64 n] w fun e w' => e = .returned (.bool true) ∧ Below w.heap.size w w' := by
  have HG := Lib.hid hG
  have HR := Lib.hid hr
  have HC := Lib.hid hc
  have HY := Lib.hid hby
  have HL := Lib.hid hll
  have t1 : decide ((4096 : Int) < (l.length : Int)) = false := decide_eq_false (by omega)
  have HX := Lib.hid hx
  obtain ⟨s, hs⟩ : ∃ s, strOfNums l = s := ⟨_, rfl⟩
  have hbs : bytesOf s = l := by rw [← hs]; exact bo_str l hby
  have hsz : s.size = l.length := by rw [← hs]; exact sz_str l
  have HS := Lib.hid hs
  have HBS := Lib.hid hbs
  have HSX := Lib.hid (show s.size ≤ 268435456 by omega)
  have HN := Lib.hid (show n < 0 ∨ (s.size : Int) < n by omega)
  have HNL := Lib.hid hn
  clear hG hr hc hby hll hx hs hbs hsz hn
  go_enter Tryd.func9, Tryd.ntmps9
  go_wp2_with (first | (go_at_call 12; (with_reducible refine (law_fixed.calls _ HG.out).mono ?_); rintro e w1 ⟨rfl, hb1⟩; have HB1 := Lib.hid hb1; clear hb1) | ((with_reducible refine gate_dst (N := 19) rfl ?_); refine Kd.R_lit (Kd.int .u8) _ 5 ?hg (N := 19) ?hd (xs := ([] : List Int)) (inner := []) (ok := fun _ => True) (okp := fun _ => True) ?hr ?hp (fun _ hk => hk) trivial (Below.refl _ _) (Nat.le_refl _) (by simp) ?_; (case hd => rfl); (case hg => rfl); (case hr => first | (go_simp; done) | (go_simp; rfl)); (case hp => exact (Reps.none _ _)); intro v1 w2 ho hb hg_ hnew_; have HO2 := Lib.hid ho; have HB2 := Lib.hid hb; clear ho hb hg_ hnew_) | ((with_reducible refine gate_builtin (b := .append) (xs := #[.tmp 19, .tmp 20]) rfl ?_); at_builtin; refine Kd.R_append_rows (Kd.int .u8) (w0 := w1) w1.heap.size rfl (.tmp 19) (.tmp 20) 26 5 (.int .u8 0) 1 rfl Tryd.underlying26 infoU8 rfl (by decide) (by decide) v1 ([] : List Int) l _ _ _ (fun _ => True) (fun _ => False) rfl rfl ?aO ?aR (fun _ _ h => h) (fun _ h => h.elim) ?aF ?aB ?aS ?aL ?_; (case aR => exact Kd.C_below HR.out (below_step HB1.out HB2.out)); (case aB => exact HB2.out); (case aF => exact (fun _ _ => trivial)); (case aO => exact HO2.out); (case aS => exact (HB2.out).size); (case aL => exact by have := HL.out; simp; omega); intro v2 w3 ho hb hg hat; (first | rw [List.nil_append] at ho | rw [HLC.out] at ho); obtain ⟨Ax, cx, hx⟩ := Kd.R_slice ho; subst hx; have HO3 := Lib.hid (Kd.R_reads' ho); have HB3 := Lib.hid (below_step HB1.out hb); clear ho hb hg hat) | (go_at_call 10; (with_reducible refine (leaf_New.calls _ _ l HX.out _ ?side1 ?side2).mono ?_); (case side1 => exact Glob.Globs_below HG.out HB3.out); (case side2 => exact HO3.out.2.2); rintro e w4 ⟨b0, rfl, hb0, hL, hb⟩; rw [HS.out] at hL; have HL4 := Lib.hid hL; have HB4 := Lib.hid (below_step HB3.out hb); clear hb0 hL hb) | (go_at_call 17; (with_reducible refine (leaf_Before.bad b0 s n HN.out _ HL4.out).mono ?_); rintro e w5 ⟨rfl, hb⟩; have HK5 := Lib.hid (blk_new w5 (.cells #[.int .i64 0, .int .i64 0, .int .i64 0, .int .i64 0, .string ⟨#[]⟩, .string ⟨#[]⟩] 36)); have HL5 := Lib.hid ((HL4.out.below hb).alloc (.cells #[.int .i64 0, .int .i64 0, .int .i64 0, .int .i64 0, .string ⟨#[]⟩, .string ⟨#[]⟩] 36)); have HB5 := Lib.hid ((below_step HB4.out hb).alloc (below_step HB4.out hb).size (.cells #[.int .i64 0, .int .i64 0, .int .i64 0, .int .i64 0, .string ⟨#[]⟩, .string ⟨#[]⟩] 36)); clear hb) | (go_at_call 18; (with_reducible refine (leaf_Split.bad b0 s n HN.out _ ?side1).mono ?_); (case side1 => exact HL5.out); rintro e w' ⟨rfl, rfl⟩; skip) | (go_at_call 22; (with_reducible refine (law_is.ok b0 s A _ _ l rfl HBS.out HSX.out _ ?side1 ?side2 HC.out).mono ?_); (case side1 => exact HL5.out); (case side2 => exact Kd.C_below HR.out HB5.out); rintro e w6 ⟨rfl, hb⟩; obtain ⟨z0, z1, z2, z3, z4, z5, zf⟩ := wblk (blk_below HK5.out hb); have HL6 := Lib.hid (HL5.out.below hb); have HB6 := Lib.hid (below_step HB5.out hb); clear hb))
  all_goals (try (exfalso; have := HNL.out; omega))
  all_goals
    go_ret
    exact ⟨rfl, HB6.out⟩
set_option maxHeartbeats 8000000 in
set_option maxRecDepth 100000 in
theorem law_LeafParts.ok (A : Option Addr) (c : Nat) (l : List Int) (hby : Byt l) (n : Nat) (hx : l.length ≤ 4096) (hn : n ≤ l.length) (w : World) (hG : Glob.Globs w) (hr : Kd.C (Kd.int .u8) w A l.length l) (hc : l.length ≤ c) (hll : l.length ≤ 140737488351232) :
    Calls Tryd.prog 9 #[.slice A l.length c, .int .i64 (n : Int)] w fun e w' => e = .returned (.bool true) ∧ Below w.heap.size w w' := by
  have HG := Lib.hid hG
  have HR := Lib.hid hr
  have HC := Lib.hid hc
  have HY := Lib.hid hby
  have HL := Lib.hid hll
  have t1 : decide ((4096 : Int) < (l.length : Int)) = false := decide_eq_false (by omega)
  have t2 : decide ((n : Int) < 0) = false := decide_eq_false (by omega)
  have t3 : decide ((l.length : Int) < (n : Int)) = false := decide_eq_false (by omega)
  have HX := Lib.hid hx
  obtain ⟨i0, hi0, _, hsz0, _⟩ := info_parts infoU8
  obtain ⟨htk, hA1, hC1⟩ := print_take_of (P := Tryd.prog) (Value.int .u8) (0 : Int) 26 5 .i64 Tryd.underlying26 hi0 hsz0 A c l (n : Int) (by omega) (by omega) hc
  obtain ⟨A', hdr, hA2, hC2⟩ := print_drop_of (P := Tryd.prog) (Value.int .u8) (0 : Int) 26 5 .i64 Tryd.underlying26 hi0 hsz0 A c l (n : Int) (by omega) (by omega) hc
  simp only [Int.toNat_natCast] at htk hA1 hC1 hdr hA2 hC2
  have hr1 := Kd.C_of_reads (h1 := fun _ => rfl) (hA1 w (Kd.reads_of_C (d := (0 : Int)) hr))
  have hr2 := Kd.C_of_reads (h1 := fun _ => rfl) (hA2 w (Kd.reads_of_C (d := (0 : Int)) hr))
  obtain ⟨p, q, s, sp, sq, hs, hsp, hsq, hp, hq, hpq, hyp, hyq, hlp, hlq, hbs, hbp, hbq, hbb, hzs, hzp, hzq⟩ := cut_two l hby n hn
  rw [hp] at htk hC1 hr1
  rw [hq] at hdr hC2 hr2
  obtain ⟨M, hM⟩ : ∃ M, mOf l = M := ⟨_, rfl⟩
  obtain ⟨PM, hPM⟩ : ∃ M, mOf p = M := ⟨_, rfl⟩
  obtain ⟨QM, hQM⟩ : ∃ M, mOf q = M := ⟨_, rfl⟩
  obtain ⟨m1, m2, m3, m4, m5, m6⟩ := M
  obtain ⟨p1, p2, p3, p4, p5, p6⟩ := PM
  obtain ⟨q1, q2, q3, q4, q5, q6⟩ := QM
  have HS := Lib.hid hs
  have HBS := Lib.hid hbs
  have HSX := Lib.hid (show s.size ≤ 268435456 by omega)
  have HN := Lib.hid (show n ≤ s.size by omega)
  have HEB := Lib.hid (show mOf (bytesOf (s.extract 0 n)) = (p1, p2, p3, p4, p5, p6) by rw [hsp, hbp, hPM])
  have HEP := Lib.hid (show mOf (bytesOf sp) = (p1, p2, p3, p4, p5, p6) by rw [hbp, hPM])
  have HEQ := Lib.hid (show mOf (bytesOf sq) = (q1, q2, q3, q4, q5, q6) by rw [hbq, hQM])
  have HEM := Lib.hid (show mOf (bytesOf s) = (m1, m2, m3, m4, m5, m6) by rw [hbs, hM])
  have HEJ := Lib.hid (show mOf (p ++ q) = (m1, m2, m3, m4, m5, m6) by rw [hpq, hM])
  have HMP := Lib.hid hPM
  have HMQ := Lib.hid hQM
  have HSP := Lib.hid hsp
  have HSQ := Lib.hid hsq
  have HBP := Lib.hid hbp
  have HBQ := Lib.hid hbq
  have HBB := Lib.hid hbb
  have HZ := Lib.hid (show sp.size + sq.size ≤ 4096 by omega)
  have HZP := Lib.hid (show sp.size ≤ 268435456 by omega)
  have HZQ := Lib.hid (show sq.size ≤ 268435456 by omega)
  have HZB := Lib.hid (show (sp ++ sq).size ≤ 268435456 by rw [← bytesOf_length, hbb]; omega)
  have HLPQ := Lib.hid (show p.length + q.length ≤ 268435456 by omega)
  have HLP := Lib.hid (show p.length ≤ 268435456 by omega)
  have HYP := Lib.hid hyp
  have HYQ := Lib.hid hyq
  have HR1 := Lib.hid hr1
  have HR2 := Lib.hid hr2
  have HC1 := Lib.hid hC1
  have HC2 := Lib.hid hC2
  clear hG hr hc hby hll hx hA1 hA2 hC1 hC2 hr1 hr2 hs hsp hsq hp hq hpq hyp hyq hlp hlq hbs hbp hbq hbb hzs hzp hzq hM hPM hQM hi0 hsz0
  go_enter Tryd.func9, Tryd.ntmps9
  go_wp2_with (first | (go_at_call 12; (with_reducible refine (law_fixed.calls _ HG.out).mono ?_); rintro e w1 ⟨rfl, hb1⟩; have HB1 := Lib.hid hb1; clear hb1) | ((with_reducible refine gate_dst (N := 19) rfl ?_); refine Kd.R_lit (Kd.int .u8) _ 5 ?hg (N := 19) ?hd (xs := ([] : List Int)) (inner := []) (ok := fun _ => True) (okp := fun _ => True) ?hr ?hp (fun _ hk => hk) trivial (Below.refl _ _) (Nat.le_refl _) (by simp) ?_; (case hd => rfl); (case hg => rfl); (case hr => first | (go_simp; done) | (go_simp; rfl)); (case hp => exact (Reps.none _ _)); intro v1 w2 ho hb hg_ hnew_; have HO2 := Lib.hid ho; have HB2 := Lib.hid hb; clear ho hb hg_ hnew_) | ((with_reducible refine gate_builtin (b := .append) (xs := #[.tmp 19, .tmp 20]) rfl ?_); at_builtin; refine Kd.R_append_rows (Kd.int .u8) (w0 := w1) w1.heap.size rfl (.tmp 19) (.tmp 20) 26 5 (.int .u8 0) 1 rfl Tryd.underlying26 infoU8 rfl (by decide) (by decide) v1 ([] : List Int) l _ _ _ (fun _ => True) (fun _ => False) rfl rfl ?aO ?aR (fun _ _ h => h) (fun _ h => h.elim) ?aF ?aB ?aS ?aL ?_; (case aR => exact Kd.C_below HR.out (below_step HB1.out HB2.out)); (case aB => exact HB2.out); (case aF => exact (fun _ _ => trivial)); (case aO => exact HO2.out); (case aS => exact (HB2.out).size); (case aL => exact by have := HL.out; simp; omega); intro v2 w3 ho hb hg hat; (first | rw [List.nil_append] at ho | rw [HLC.out] at ho); obtain ⟨Ax, cx, hx⟩ := Kd.R_slice ho; subst hx; have HO3 := Lib.hid (Kd.R_reads' ho); have HB3 := Lib.hid (below_step HB1.out hb); clear ho hb hg hat) | (go_at_call 10; (with_reducible refine (leaf_New.calls _ _ l HX.out _ ?side1 ?side2).mono ?_); (case side1 => exact Glob.Globs_below HG.out HB3.out); (case side2 => exact HO3.out.2.2); rintro e w4 ⟨b0, rfl, hb0, hL, hb⟩; rw [HS.out] at hL; have HL4 := Lib.hid hL; have HB4 := Lib.hid (below_step HB3.out hb); clear hb0 hL hb) | (go_at_call 17; (with_reducible refine (before_at b0 s n HN.out HSX.out p1 p2 p3 p4 p5 p6 HEB.out _ ?side1 HL4.out).mono ?_); (case side1 => exact Glob.Globs_below HG.out HB4.out); rintro e w5 ⟨rfl, hb⟩; have HK5 := Lib.hid (blk_new w5 (.cells #[.int .i64 p1, .int .i64 p2, .int .i64 p3, .int .i64 p4, .string p5, .string p6] 36)); have HL5 := Lib.hid ((HL4.out.below hb).alloc (.cells #[.int .i64 p1, .int .i64 p2, .int .i64 p3, .int .i64 p4, .string p5, .string p6] 36)); have HB5 := Lib.hid ((below_step HB4.out hb).alloc (below_step HB4.out hb).size (.cells #[.int .i64 p1, .int .i64 p2, .int .i64 p3, .int .i64 p4, .string p5, .string p6] 36)); clear hb) | (go_at_call 18; (with_reducible refine (leaf_Split.ok b0 s n HN.out HSX.out _ ?side1 ?side2).mono ?_); (case side1 => exact Glob.Globs_below HG.out HB5.out); (case side2 => exact HL5.out); rintro e w6 ⟨bx, by_, rfl, ⟨hx0, hLX⟩, ⟨hy0, hLY⟩, hb⟩; rw [HSP.out] at hLX; rw [HSQ.out] at hLY; have HLX6 := Lib.hid hLX; have HLY6 := Lib.hid hLY; have HK6 := Lib.hid (blk_below HK5.out hb); have HL6 := Lib.hid (HL5.out.below hb); have HB6 := Lib.hid (below_step HB5.out hb); clear hb hx0 hy0 hLX hLY) | (go_at_call 22; (with_reducible refine (law_is.ok b0 s A _ _ l rfl HBS.out HSX.out _ ?side1 ?side2 HC.out).mono ?_); (case side1 => exact HL6.out); (case side2 => exact Kd.C_below HR.out HB6.out); rintro e w7 ⟨rfl, hb⟩; have HK7 := Lib.hid (blk_below HK6.out hb); have HL7 := Lib.hid (HL6.out.below hb); have HLX7 := Lib.hid (HLX6.out.below hb); have HLY7 := Lib.hid (HLY6.out.below hb); have HB7 := Lib.hid (below_step HB6.out hb); clear hb) | (go_at_call 23; (with_reducible refine (leaf_Join.ok bx by_ sp sq HZ.out _ ?side1 ?side2 ?side3).mono ?_); (case side1 => exact Glob.Globs_below HG.out HB7.out); (case side2 => exact HLX7.out); (case side3 => exact HLY7.out); rintro e w8 ⟨bl, rfl, hl0, hLL, hb⟩; have HLL8 := Lib.hid hLL; have HK8 := Lib.hid (blk_below HK7.out hb); clear hl0 hLL; have HL8 := Lib.hid (HL7.out.below hb); have HLX8 := Lib.hid (HLX7.out.below hb); have HLY8 := Lib.hid (HLY7.out.below hb); have HB8 := Lib.hid (below_step HB7.out hb); clear hb) | (go_at_call 15; (with_reducible refine (weld_at2 bx sp p1 p2 p3 p4 p5 p6 _ HLX8.out HEP.out).mono ?_); rintro e w9 ⟨rfl, hb⟩; have HK9 := Lib.hid (blk_below HK8.out hb); have HL9 := Lib.hid (HL8.out.below hb); have HLX9 := Lib.hid (HLX8.out.below hb); have HLY9 := Lib.hid (HLY8.out.below hb); have HLL9 := Lib.hid (HLL8.out.below hb); have HB9 := Lib.hid (below_step HB8.out hb); clear hb) | (go_at_call 15; (with_reducible refine (weld_at2 by_ sq q1 q2 q3 q4 q5 q6 _ HLY9.out HEQ.out).mono ?_); rintro e w10 ⟨rfl, hb⟩; have HK10 := Lib.hid (blk_below HK9.out hb); have HL10 := Lib.hid (HL9.out.below hb); have HLX10 := Lib.hid (HLX9.out.below hb); have HLY10 := Lib.hid (HLY9.out.below hb); have HLL10 := Lib.hid (HLL9.out.below hb); have HB10 := Lib.hid (below_step HB9.out hb); clear hb) | (go_at_call 26; (with_reducible refine (wjoin_at p q HYP.out HYQ.out HLPQ.out p1 p2 p3 p4 p5 p6 q1 q2 q3 q4 q5 q6 m1 m2 m3 m4 m5 m6 HMP.out HMQ.out HEJ.out _ ?side1).mono ?_); (case side1 => exact Glob.Globs_below HG.out HB10.out); rintro e w11 ⟨rfl, hb⟩; have HK11 := Lib.hid (blk_below HK10.out hb); have HL11 := Lib.hid (HL10.out.below hb); have HLX11 := Lib.hid (HLX10.out.below hb); have HLY11 := Lib.hid (HLY10.out.below hb); have HLL11 := Lib.hid (HLL10.out.below hb); have HB11 := Lib.hid (below_step HB10.out hb); clear hb))
  all_goals (try (exfalso; omega))
  have HKA := Lib.hid (blk_new w11 (.cells #[.int .i64 m1, .int .i64 m2, .int .i64 m3, .int .i64 m4, .string m5, .string m6] 36))
  have HKP := Lib.hid (blk_below HK11.out ((Below.refl _ w11).alloc (Nat.le_refl _) (.cells #[.int .i64 m1, .int .i64 m2, .int .i64 m3, .int .i64 m4, .string m5, .string m6] 36)))
  have HLA := Lib.hid (HL11.out.alloc (.cells #[.int .i64 m1, .int .i64 m2, .int .i64 m3, .int .i64 m4, .string m5, .string m6] 36))
  have HLXA := Lib.hid (HLX11.out.alloc (.cells #[.int .i64 m1, .int .i64 m2, .int .i64 m3, .int .i64 m4, .string m5, .string m6] 36))
  have HLYA := Lib.hid (HLY11.out.alloc (.cells #[.int .i64 m1, .int .i64 m2, .int .i64 m3, .int .i64 m4, .string m5, .string m6] 36))
  have HLLA := Lib.hid (HLL11.out.alloc (.cells #[.int .i64 m1, .int .i64 m2, .int .i64 m3, .int .i64 m4, .string m5, .string m6] 36))
  have HBA := Lib.hid (HB11.out.alloc HB11.out.size (.cells #[.int .i64 m1, .int .i64 m2, .int .i64 m3, .int .i64 m4, .string m5, .string m6] 36))
  generalize w11.alloc (.cells #[.int .i64 m1, .int .i64 m2, .int .i64 m3, .int .i64 m4, .string m5, .string m6] 36) = W at HKA HKP HLA HLXA HLYA HLLA HBA ⊢
  go_region_held3 (fun w' => w'.cell? ⟨w5.heap.size, 0, none⟩ = some (.int .i64 p1) ∧ w'.cell? ⟨w5.heap.size, 1, none⟩ = some (.int .i64 p2) ∧ w'.cell? ⟨w5.heap.size, 2, none⟩ = some (.int .i64 p3) ∧ w'.cell? ⟨w5.heap.size, 3, none⟩ = some (.int .i64 p4) ∧ w'.cell? ⟨w5.heap.size, 4, none⟩ = some (.string p5) ∧ w'.cell? ⟨w5.heap.size, 5, none⟩ = some (.string p6) ∧ w'.cell? ⟨w11.heap.size, 0, none⟩ = some (.int .i64 m1) ∧ w'.cell? ⟨w11.heap.size, 1, none⟩ = some (.int .i64 m2) ∧ w'.cell? ⟨w11.heap.size, 2, none⟩ = some (.int .i64 m3) ∧ w'.cell? ⟨w11.heap.size, 3, none⟩ = some (.int .i64 m4) ∧ w'.cell? ⟨w11.heap.size, 4, none⟩ = some (.string m5) ∧ w'.cell? ⟨w11.heap.size, 5, none⟩ = some (.string m6)) (first | exact two_blk HKP.out HKA.out | exact two_blk HKP12.out HKA12.out | exact two_blk HKP13.out HKA13.out | exact two_blk HKP14.out HKA14.out | exact two_blk HKP15.out HKA15.out | exact two_blk HKP16.out HKA16.out | exact two_blk HKP17.out HKA17.out) (first | (go_at_call 25; (with_reducible refine (refOf_at A _ c p _ rfl HYP.out HLP.out p1 p2 p3 p4 p5 p6 HMP.out ?side1 HC1.out).mono ?_); (case side1 => exact Kd.C_below HR1.out HBA.out.drew); rintro e w12 ⟨rfl, hb⟩; have HKP12 := Lib.hid (blk_below (w := W.drew) HKP.out hb); have HKA12 := Lib.hid (blk_below (w := W.drew) HKA.out hb); have HL12 := Lib.hid (HLA.out.drew.below hb); have HLX12 := Lib.hid (HLXA.out.drew.below hb); have HLY12 := Lib.hid (HLYA.out.drew.below hb); have HLL12 := Lib.hid (HLLA.out.drew.below hb); have HB12 := Lib.hid (below_step HBA.out.drew hb); clear hb) | (go_at_call 22; (with_reducible refine (law_is.ok bx sp A _ c p rfl HBP.out HZP.out _ ?side1 ?side2 HC1.out).mono ?_); (case side1 => exact HLX12.out); (case side2 => exact Kd.C_below HR1.out HB12.out); rintro e w13 ⟨rfl, hb⟩; have HKP13 := Lib.hid (blk_below HKP12.out hb); have HKA13 := Lib.hid (blk_below HKA12.out hb); have HL13 := Lib.hid (HL12.out.below hb); have HLY13 := Lib.hid (HLY12.out.below hb); have HLL13 := Lib.hid (HLL12.out.below hb); have HB13 := Lib.hid (below_step HB12.out hb); clear hb) | (go_at_call 22; (with_reducible refine (law_is.ok by_ sq A' _ _ q rfl HBQ.out HZQ.out _ ?side1 ?side2 HC2.out).mono ?_); (case side1 => exact HLY13.out); (case side2 => exact Kd.C_below HR2.out HB13.out); rintro e w14 ⟨rfl, hb⟩; have HKP14 := Lib.hid (blk_below HKP13.out hb); have HKA14 := Lib.hid (blk_below HKA13.out hb); have HL14 := Lib.hid (HL13.out.below hb); have HLL14 := Lib.hid (HLL13.out.below hb); have HB14 := Lib.hid (below_step HB13.out hb); clear hb) | (go_at_call 22; (with_reducible refine (law_is.ok bl (sp ++ sq) A _ c l rfl HBB.out HZB.out _ ?side1 ?side2 HC.out).mono ?_); (case side1 => exact HLL14.out); (case side2 => exact Kd.C_below HR.out HB14.out); rintro e w15 ⟨rfl, hb⟩; have HKP15 := Lib.hid (blk_below HKP14.out hb); have HKA15 := Lib.hid (blk_below HKA14.out hb); have HL15 := Lib.hid (HL14.out.below hb); have HB15 := Lib.hid (below_step HB14.out hb); clear hb) | (go_at_call 15; (with_reducible refine (weld_at2 b0 s m1 m2 m3 m4 m5 m6 _ HL15.out HEM.out).mono ?_); rintro e w16 ⟨rfl, hb⟩; have HKP16 := Lib.hid (blk_below HKP15.out hb); have HKA16 := Lib.hid (blk_below HKA15.out hb); have HL16 := Lib.hid (HL15.out.below hb); have HB16 := Lib.hid (below_step HB15.out hb); clear hb) | (go_at_call 22; (with_reducible refine (law_is.ok b0 s A _ c l rfl HBS.out HSX.out _ ?side1 ?side2 HC.out).mono ?_); (case side1 => exact HL16.out); (case side2 => exact Kd.C_below HR.out HB16.out); rintro e w17 ⟨rfl, hb⟩; have HKP17 := Lib.hid (blk_below HKP16.out hb); have HKA17 := Lib.hid (blk_below HKA16.out hb); have HB17 := Lib.hid (below_step HB16.out hb); clear hb))
  go_wp2_with fail
  go_ret
  exact ⟨rfl, HB17.out⟩
theorem law_LeafParts.walk (_ : True) (a0 : Option Addr) (len0 cap0 : Nat) (z0 : List Int) (n : Int) (w : World) (hG : Glob.Globs w) (w0 : RowU8 w a0 len0 cap0 z0) (y0 : len0 * 1 ≤ 140737488351232) (_ : (Lit.int .i64 n).wf = true) :
    Calls Tryd.prog 9 #[.slice a0 len0 cap0, .int .i64 n] w fun e w' => e = .returned (.bool true) ∧ Below w.heap.size w w' := by
  obtain ⟨l, rfl, hr, hc, hy, hl⟩ := w0.open y0
  by_cases h1 : 4096 < l.length
  · exact law_LeafParts.long a0 cap0 l hy n h1 w hG hr hc hl
  · by_cases h2 : n < 0 ∨ (l.length : Int) < n
    · exact law_LeafParts.bad a0 cap0 l hy n (by omega) h2 w hG hr hc hl
    · obtain ⟨m, rfl⟩ := Int.eq_ofNat_of_zero_le (show 0 ≤ n by omega)
      exact law_LeafParts.ok a0 cap0 l hy m (by omega) (by omega) w hG hr hc hl
end Go.Proofs.YteoonhidjldnfaaDoor.Pr

namespace Go.Proofs.YteoonhidjldnfaaDoorW.PrintWords
open Go.ChangeShapes Go.WideShapes
theorem sized_ints {H : Type} {enc : TypeId × Value → H} {P : Program} {W : World} {base : Nat} {spare : Nat → Bool} {held : Bool} {t e : TypeId} {k : IntKind} {a : Option Addr} {len cap : Nat} {d : DataW H} {ps : List MemPlace} {ts : List TypeId} {ds : List (DataW H)} {j : Nat}
    (hsz : (DataW.weightsEach P ts ds).all (· ≤ reachBytes) = true) (ht : ts[j]? = some t) (hd : ds[j]? = some d) (hu : P.underlying t = some (.slice e)) (he : P.underlying e = some (.int k)) (hc : P.cellsOf e = 1) {B : Nat} (hB : P.bytesOf e = B)
    (h : DataW.Trod enc P W base spare held t (.slice a len cap) d ps) : len * B ≤ 140737488351232 := by
  obtain ⟨fuel, hf⟩ := h
  rcases open_ints hu he hc hf with ⟨hcs, _⟩ | ⟨x, l, c, zs, hcs, _, hl, _, hz, hx, _, _⟩
  · simp [Value.cells] at hcs
    obtain ⟨rfl, rfl, rfl⟩ := hcs
    simp
  · simp [Value.cells] at hcs
    obtain ⟨rfl, rfl, rfl⟩ := hcs
    obtain ⟨hx, _⟩ := Prod.mk.inj hx
    subst hx
    have z := sized_slice hsz ht hd hu
    rw [hB] at z
    have hl2 : len ≤ zs.length := by
      rw [hz]
      split
      · exact hl
      · exact Nat.le_refl _
    have h1 : (lits (H := H) k (zs.take len)).length + (lits (H := H) k (zs.drop len)).length = zs.length := by
      simp [lits]
      omega
    rw [h1] at z
    exact Nat.le_trans (Nat.mul_le_mul_right _ hl2) z
end Go.Proofs.YteoonhidjldnfaaDoorW.PrintWords
