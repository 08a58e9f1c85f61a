/- The laws' own 'is': a leaf of just these bytes, with their measure. Conditions: the leaf's text fits; the slice reads as its bytes. -/
import Derived.Test.YtiolhoaoepgmcaaDoorLf2
import Derived.Test.YtiolhoaoepgmcaaDoorPr7
namespace Go.Proofs.YtiolhoaoepgmcaaDoor.Pr
open Go.RowKit Go.Proofs.YtiolhoaoepgmcaaDoor.Math Go.Proofs.YtiolhoaoepgmcaaDoor.PuMs Go.Proofs.YtiolhoaoepgmcaaDoorW.PrintWords Go.Proofs.YtiolhoaoepgmcaaDoorW.PrintLast Go.Proofs.YtiolhoaoepgmcaaDoorW.PrintMore
set_option linter.unusedVariables false
set_option linter.unusedSimpArgs false
attribute [local go_sem ↓] Go.wp_at_zero Go.wp_at_succ

theorem refOf_any (A : Option Addr) (n c : Nat) (l : List Int) (w : World) (hn : l.length = n) (hb : Byt l) (hl : n ≤ 268435456) (hr : Kd.C (Kd.int .u8) w A l.length l) (hc : n ≤ c) :
    Calls Tryd.prog 29 #[.slice A n c] w fun e w' => e = .returned (msV (mOf l)) ∧ Below w.heap.size w w' := by
  subst hn
  exact galleyref05_Of.calls (2 * l.length + 12) A c l _ _ _ _ _ _ w hr hc (refOf_eq _ l hb hl (Nat.le_refl _))
theorem conv_new (w : World) (s : ByteArray) (c : Nat) (hs : s.size ≤ 268435456) : Sem.run Tryd.prog (convert 26 9 (.slice (some ⟨w.heap.size, 0, none⟩) s.size c)) (Lib.bytesWorld w 5 s) = .ok (.string s) (Lib.bytesWorld w 5 s) := by
  have h := conv_str (some ⟨w.heap.size, 0, none⟩) c (bytesOf s) _ (bytes_C w s hs)
  rw [bytesOf_length, str_bo] at h
  exact h

set_option maxHeartbeats 8000000 in
set_option maxRecDepth 100000 in
theorem law_is.ok (b : Nat) (s : ByteArray) (A : Option Addr) (n c : Nat) (l : List Int) (hn : l.length = n) (hl : bytesOf s = l) (hs : s.size ≤ 268435456) (w : World) (h : Lf w b s) (hr : Kd.C (Kd.int .u8) w A l.length l) (hc : n ≤ c) :
    Calls Tryd.prog 20 #[lfP b, .slice A n c] w fun e w' => e = .returned (.bool true) ∧ Below w.heap.size w w' := by
  subst hn
  have hsz : s.size = l.length := by rw [← hl, bytesOf_length]
  have hstr : strOfNums l = s := by rw [← hl, str_bo]
  have HL := Lib.hid h
  have HR := Lib.hid hr
  have HS := Lib.hid hs
  have HN := Lib.hid hl
  have HC := Lib.hid hc
  have HZ := Lib.hid hsz
  have hlb : l.length ≤ 268435456 := by omega
  have HB := Lib.hid hlb
  have hby : Byt l := by rw [← hl]; exact bo_byt s
  have HY := Lib.hid hby
  have HCV := Lib.hid (fun (W : World) (hb : Below w.heap.size w W) => (conv_str A c l W (Kd.C_below hr hb)).trans (by rw [hstr]))
  have e1 : ((s.size : Int) == (l.length : Int)) = true := by rw [hsz]; simp
  have e2 : (s.toList == s.toList) = true := by simp
  have hcv0 := HCV.out w.drew (Below.refl _ w).drew
  have hcv1 := HCV.out (Lib.bytesWorld w.drew 5 s) ((Below.refl _ w).drew.trans (bytes_below w.drew s))
  have hcv2 : Sem.run Tryd.prog (convert 26 9 (.slice (some ⟨w.heap.size, 0, none⟩) s.size (grownCap w.drew s.size 0 5))) (Lib.bytesWorld w.drew 5 s) = .ok (.string s) (Lib.bytesWorld w.drew 5 s) := conv_new w.drew s (grownCap w.drew s.size 0 5) hs
  clear h hr hs hl hc hsz hlb hby hstr
  obtain ⟨m, hm⟩ : ∃ m, mOf l = m := ⟨_, rfl⟩
  have HM := Lib.hid hm
  clear hm
  obtain ⟨m1, m2, m3, m4, m5, m6⟩ := m
  have HL1 := Lib.hid (HL.out.drew.bytes 5 s)
  have HB1 := Lib.hid ((Below.refl _ w).drew.trans (bytes_below w.drew s))
  have HR1 := Lib.hid (Kd.C_below HR.out HB1.out)
  go_enter Tryd.func20, Tryd.ntmps20
  go_wp2_with fail
  go_region_with (first | (go_at_call 12; refine (leaf_Len.calls b s _ (by first | exact HL.out | exact HL.out.drew)).mono ?_; rintro e w' ⟨rfl, rfl⟩) | (go_at_call 17; refine (leaf_Bytes.calls b s _ HL.out.drew).mono ?_; rintro e w' ⟨rfl, rfl⟩) | (go_at_call 13; refine (leaf_Weld.calls b s _ (by first | exact HL1.out | exact HL1.out.below (Hid.out (by assumption)))).mono ?_; rw [HN.out, HM.out]; rintro e w2 ⟨rfl, hb2⟩; have HW2 := Lib.hid hb2; clear hb2) | (go_at_call 29; refine (refOf_any _ _ _ l _ rfl HY.out HB.out (by first | exact HR1.out | exact Kd.C_below HR.out (below_step HB1.out (Hid.out (by assumption)))) HC.out).mono ?_; rw [HM.out]; rintro e w2 ⟨rfl, hb2⟩; have HW2 := Lib.hid hb2; clear hb2))
  all_goals
    have P1 := ‹Hid (Below (Lib.bytesWorld w.drew 5 s).heap.size (Lib.bytesWorld w.drew 5 s) _)›
    go_wp2_with fail
    go_ret
    exact ⟨rfl, below_step (w := w) (below_step (w := w) HB1.out P1.out) HW2.out⟩
end Go.Proofs.YtiolhoaoepgmcaaDoor.Pr
