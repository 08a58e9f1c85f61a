/- Leaves: what a block that holds one holds; the contracts of a leaf's own small functions, by hand. Conditions: a text's size fits; step.bad's cells are as laid. -/
import Derived.Test.YtiolhoaoepgmcaaDoorPuMo
import Derived.Test.YtiolhoaoepgmcaaDoorFSizes
import Derived.Test.YtiolhoaoepgmcaaDoorBytes
import Derived.Test.YtiolhoaoepgmcaaDoorPr2
import Derived.Lib.ConvBytes
import Derived.Lib.Hide
import Derived.Outline
import Derived.WalkSpells
namespace Go.Proofs.YtiolhoaoepgmcaaDoor.Pr
open Go.RowKit Go.Proofs.YtiolhoaoepgmcaaDoor.Math Go.Proofs.YtiolhoaoepgmcaaDoor.PuMs Go.Proofs.YtiolhoaoepgmcaaDoorW.PrintWords Go.Proofs.YtiolhoaoepgmcaaDoorW.PrintLast Go.Proofs.YtiolhoaoepgmcaaDoorW.PrintMore
set_option linter.unusedVariables false
set_option linter.unusedSimpArgs false

/-- A slice of bytes as a row's data give it. -/
abbrev RowU8 (w : World) (a : Option Addr) (len cap : Nat) (z : List Int) : Prop := (a = none ∧ len = 0 ∧ cap = 0 ∧ z = []) ∨ ∃ x, a = some x ∧ len ≤ cap ∧ cap ≤ maxLen ∧ z.length = cap ∧ (∀ i, i < z.length → w.cell? (x.add i) = some (.int .u8 (z.getD i 0))) ∧ ∀ n ∈ z, (Lit.int .u8 n).wf = true
theorem RowU8.open {w : World} {a : Option Addr} {len cap : Nat} {z : List Int} (h : RowU8 w a len cap z) (y : len * 1 ≤ 140737488351232) :
    ∃ l : List Int, l.length = len ∧ Kd.C (Kd.int .u8) w a l.length l ∧ l.length ≤ cap ∧ Byt l ∧ l.length ≤ 140737488351232 := by
  obtain ⟨l0, rfl, hr0, hm0, hw0, hc0⟩ := ReadsInt.ofRowC h
  exact ⟨l0, rfl, Kd.C_of_reads (d := (0 : Int)) (h1 := fun _ => rfl) hr0, hc0, Byt.of_wf hw0, by omega⟩
/-- A leaf's cells: its text, and the measure. -/
def lfC (s : ByteArray) (m : Ms) : Array Value := #[.string s, .int .i64 m.1, .int .i64 m.2.1, .int .i64 m.2.2.1, .int .i64 m.2.2.2.1, .string m.2.2.2.2.1, .string m.2.2.2.2.2]
/-- Block b is a leaf of this text. -/
def Lf (W : World) (b : Nat) (s : ByteArray) : Prop := W.heap[b]? = some (.cells (lfC s (mOf (bytesOf s))) 56 (0, 0))
abbrev lfP (b : Nat) : Value := .pointer (some ⟨b, 0, none⟩)
theorem Lf.lt {W : World} {b : Nat} {s : ByteArray} (h : Lf W b s) : b < W.heap.size := Glob.lt_of_heap h
theorem Lf.below {W W' : World} {b : Nat} {s : ByteArray} (h : Lf W b s) (hb : Below W.heap.size W W') : Lf W' b s := (hb.block _ h.lt).trans h
theorem Lf.drew {W : World} {b : Nat} {s : ByteArray} (h : Lf W b s) : Lf W.drew b s := h
theorem Lf.drewN {W : World} {b : Nat} {s : ByteArray} (h : Lf W b s) (n : Nat) : Lf (W.drewN n) b s := h
theorem Lf.alloc {W : World} {b : Nat} {s : ByteArray} (h : Lf W b s) (o : Obj) : Lf (W.alloc o) b s := (Below.heap_alloc W o b h.lt).trans h
theorem Lf.bytes {W : World} {b : Nat} {s : ByteArray} (h : Lf W b s) (e : TypeId) (t : ByteArray) : Lf (Lib.bytesWorld W e t) b s := (Lib.bytesWorld_at_old W e t b h.lt).trans h
/-- Its cells. -/
theorem Lf.cells {W : World} {b : Nat} {s : ByteArray} (h : Lf W b s) : ∃ m : Ms, mOf (bytesOf s) = m ∧ W.cell? ⟨b, 0, none⟩ = some (.string s) ∧ W.cell? ⟨b, 1, none⟩ = some (.int .i64 m.1) ∧ W.cell? ⟨b, 2, none⟩ = some (.int .i64 m.2.1) ∧ W.cell? ⟨b, 3, none⟩ = some (.int .i64 m.2.2.1) ∧ W.cell? ⟨b, 4, none⟩ = some (.int .i64 m.2.2.2.1) ∧ W.cell? ⟨b, 5, none⟩ = some (.string m.2.2.2.2.1) ∧ W.cell? ⟨b, 6, none⟩ = some (.string m.2.2.2.2.2) :=
  ⟨_, rfl, blk_cell h 0, blk_cell h 1, blk_cell h 2, blk_cell h 3, blk_cell h 4, blk_cell h 5, blk_cell h 6⟩
theorem Lf.text {W : World} {b : Nat} {s : ByteArray} (h : Lf W b s) : W.cell? ⟨b, 0, none⟩ = some (.string s) := blk_cell h 0
abbrev msV (m : Ms) : Value := .agg #[.int .i64 m.1, .int .i64 m.2.1, .int .i64 m.2.2.1, .int .i64 m.2.2.2.1, .string m.2.2.2.2.1, .string m.2.2.2.2.2]

/-- A measure's block, cell by cell. -/
theorem wblk {W : World} {b : Nat} {i1 i2 i3 i4 : Int} {s1 s2 : ByteArray} {T : TypeId} (h : W.heap[b]? = some (.cells #[.int .i64 i1, .int .i64 i2, .int .i64 i3, .int .i64 i4, .string s1, .string s2] T (0, 0))) :
    W.cell? ⟨b, 0, none⟩ = some (.int .i64 i1) ∧ W.cell? ⟨b, 1, none⟩ = some (.int .i64 i2) ∧ W.cell? ⟨b, 2, none⟩ = some (.int .i64 i3) ∧ W.cell? ⟨b, 3, none⟩ = some (.int .i64 i4) ∧ W.cell? ⟨b, 4, none⟩ = some (.string s1) ∧ W.cell? ⟨b, 5, none⟩ = some (.string s2) ∧ ∀ j, W.frozen? ⟨b, j, none⟩ = false :=
  ⟨blk_cell h 0, blk_cell h 1, blk_cell h 2, blk_cell h 3, blk_cell h 4, blk_cell h 5, fun j => blk_frozen h j⟩
/-- A measure stored, cell by cell. -/
theorem wset {W : World} {b : Nat} {u0 u1 u2 u3 u4 u5 : Value} {T : TypeId} (h : W.heap[b]? = some (.cells #[u0, u1, u2, u3, u4, u5] T (0, 0))) (v0 v1 v2 v3 v4 v5 : Value) :
    ((((((W.setCell ⟨b, 0, none⟩ v0).setCell ⟨b, 1, none⟩ v1).setCell ⟨b, 2, none⟩ v2).setCell ⟨b, 3, none⟩ v3).setCell ⟨b, 4, none⟩ v4).setCell ⟨b, 5, none⟩ v5).heap[b]? = some (.cells #[v0, v1, v2, v3, v4, v5] T (0, 0)) := by
  refine blk_put (cs := #[v0, v1, v2, v3, v4, u5]) ?_ 5 _ rfl
  refine blk_put (cs := #[v0, v1, v2, v3, u4, u5]) ?_ 4 _ rfl
  refine blk_put (cs := #[v0, v1, v2, u3, u4, u5]) ?_ 3 _ rfl
  refine blk_put (cs := #[v0, v1, u2, u3, u4, u5]) ?_ 2 _ rfl
  refine blk_put (cs := #[v0, u1, u2, u3, u4, u5]) ?_ 1 _ rfl
  exact blk_put (cs := #[u0, u1, u2, u3, u4, u5]) h 0 _ rfl
theorem wset_below {B : Nat} {w W : World} {b : Nat} (h : Below B w W) (hb : B ≤ b) (v0 v1 v2 v3 v4 v5 : Value) :
    Below B w ((((((W.setCell ⟨b, 0, none⟩ v0).setCell ⟨b, 1, none⟩ v1).setCell ⟨b, 2, none⟩ v2).setCell ⟨b, 3, none⟩ v3).setCell ⟨b, 4, none⟩ v4).setCell ⟨b, 5, none⟩ v5) :=
  (((((h.setCell (p := ⟨b, 0, none⟩) hb _).setCell (p := ⟨b, 1, none⟩) hb _).setCell (p := ⟨b, 2, none⟩) hb _).setCell (p := ⟨b, 3, none⟩) hb _).setCell (p := ⟨b, 4, none⟩) hb _).setCell (p := ⟨b, 5, none⟩) hb _
/-- What makes a new leaf. -/
def LfNew (w : World) (s : ByteArray) (e : Ending) (w' : World) : Prop := ∃ b, e = .returned (lfP b) ∧ w.heap.size ≤ b ∧ Lf w' b s ∧ Below w.heap.size w w'

/-- weld.Of, of bytes that a slice reads as. -/
theorem weldOf_any (A : Option Addr) (n c : Nat) (l : List Int) (w : World) (hn : l.length = n) (hb : Byt l) (hl : n ≤ 268435456) (hG : Glob.Globs w) (hr : Kd.C (Kd.int .u8) w A l.length l) (hc : n ≤ c) :
    Calls Tryd.prog 18 #[.slice A n c] w fun e w' => e = .returned (msV (mOf l)) ∧ Below w.heap.size w w' := by
  subst hn
  exact weld_Of.calls A c l _ _ _ _ _ _ w hG hr hc (weldOf_eq l hb hl)

theorem conv_bytes (w : World) (s : ByteArray) : Sem.run Tryd.prog (convert 9 26 (.string s)) w = .ok (.slice (some ⟨w.heap.size, 0, none⟩) s.size (grownCap w s.size 0 5)) (Lib.bytesWorld w 5 s) :=
  Lib.run_convert_string_bytes w 9 26 5 s Tryd.underlying9 Tryd.underlying26 Tryd.underlying5
theorem bytes_below (w : World) (s : ByteArray) : Below w.heap.size w (Lib.bytesWorld w 5 s) := below_bytes 5 s _ (Below.refl _ _) (Nat.le_refl _)
theorem bytes_C (w : World) (s : ByteArray) (hs : s.size ≤ 268435456) : Kd.C (Kd.int .u8) (Lib.bytesWorld w 5 s) (some ⟨w.heap.size, 0, none⟩) (bytesOf s).length (bytesOf s) := C_bytes w 5 s (by omega)

set_option maxHeartbeats 4000000 in
set_option maxRecDepth 100000 in
theorem leaf_made.calls (s : ByteArray) (hs : s.size ≤ 268435456) (w : World) (hG : Glob.Globs w) : Calls Tryd.prog 22 #[.string s] w (LfNew w s) := by
  have HG := Lib.hid hG
  have HS := Lib.hid hs
  clear hG hs
  have hcv := conv_bytes w s
  go_enter Tryd.func22, Tryd.ntmps22
  go_wp2_with fail
  refine (weldOf_any _ _ _ (bytesOf s) _ (bytesOf_length s) (bo_byt s) HS.out (Glob.Globs_below HG.out (bytes_below w s)) (bytes_C w s HS.out) (bytesCells_len w 5 s)).mono ?_
  rintro e w1 ⟨rfl, hb⟩
  have B1 : Below w.heap.size w w1 := below_step (bytes_below w s) hb
  clear hb
  have HB := Lib.hid B1
  clear B1
  go_wp2_with fail
  go_ret
  exact ⟨w1.heap.size, rfl, HB.out.size, blk_new w1 _, HB.out.alloc HB.out.size _⟩
/-! ### New, Len, Bytes, Weld -/
theorem conv_str (A : Option Addr) (c : Nat) (l : List Int) (w : World) (hr : Kd.C (Kd.int .u8) w A l.length l) : Sem.run Tryd.prog (convert 26 9 (.slice A l.length c)) w = .ok (.string (strOfNums l)) w :=
  Kd.C_string (P := Tryd.prog) (A := A) (c := c) Tryd.underlying26 Tryd.underlying5 Tryd.underlying9 hr

set_option maxHeartbeats 4000000 in
set_option maxRecDepth 100000 in
theorem leaf_New.calls (A : Option Addr) (c : Nat) (l : List Int) (hl : l.length ≤ 4096) (w : World) (hG : Glob.Globs w) (hr : Kd.C (Kd.int .u8) w A l.length l) :
    Calls Tryd.prog 8 #[.slice A l.length c] w fun e w' => ∃ b, e = .returned (.tuple #[lfP b, .int .i64 0]) ∧ w.heap.size ≤ b ∧ Lf w' b (strOfNums l) ∧ Below w.heap.size w w' := by
  have HG := Lib.hid hG
  have HR := Lib.hid hr
  have hcv := conv_str A c l w hr
  have ht : decide ((4096 : Int) < (l.length : Int)) = false := decide_eq_false (by omega)
  have hs : (strOfNums l).size ≤ 268435456 := by rw [sz_str]; omega
  have HS := Lib.hid hs
  clear hG hr hs
  go_enter Tryd.func8, Tryd.ntmps8
  go_wp2_with fail
  refine (leaf_made.calls _ HS.out _ HG.out).mono ?_
  rintro e w1 ⟨b, rfl, hb0, hL, hb⟩
  have H1 := Lib.hid hb0
  have H2 := Lib.hid hL
  have H3 := Lib.hid hb
  clear hb0 hL hb
  go_wp2_with fail
  go_ret2
  exact ⟨b, rfl, H1.out, H2.out, H3.out⟩
set_option maxHeartbeats 4000000 in
set_option maxRecDepth 100000 in
theorem leaf_New.long (A : Option Addr) (n c : Nat) (hl : 4096 < n) (hm : n ≤ 9223372036854775807) (w : World) :
    Calls Tryd.prog 8 #[.slice A n c] w fun e w' => e = .returned (.tuple #[.pointer none, .int .i64 5]) ∧ w = w' := by
  have ht : decide ((4096 : Int) < (n : Int)) = true := decide_eq_true (by omega)
  go_enter Tryd.func8, Tryd.ntmps8
  go_wp2_with fail
  go_ret2
  exact ⟨rfl, rfl⟩

set_option maxHeartbeats 4000000 in
set_option maxRecDepth 100000 in
theorem leaf_Len.calls (b : Nat) (s : ByteArray) (w : World) (h : Lf w b s) : Calls Tryd.prog 12 #[lfP b] w fun e w' => e = .returned (.int .i64 (s.size : Int)) ∧ w = w' := by
  have hc := h.text
  clear h
  go_enter Tryd.func12, Tryd.ntmps12
  go_wp2_with fail
  go_ret
  exact ⟨rfl, rfl⟩
set_option maxHeartbeats 4000000 in
set_option maxRecDepth 100000 in
theorem leaf_Len.none (w : World) : Calls Tryd.prog 12 #[.pointer none] w fun e w' => e = .returned (.int .i64 0) ∧ w = w' := by
  go_enter Tryd.func12, Tryd.ntmps12
  go_wp2_with fail
  go_ret
  exact ⟨rfl, rfl⟩

set_option maxHeartbeats 4000000 in
set_option maxRecDepth 100000 in
theorem leaf_Bytes.calls (b : Nat) (s : ByteArray) (w : World) (h : Lf w b s) : Calls Tryd.prog 17 #[lfP b] w fun e w' => e = .returned (.slice (some ⟨w.heap.size, 0, none⟩) s.size (grownCap w s.size 0 5)) ∧ w' = Lib.bytesWorld w 5 s := by
  have hc := h.text
  have hcv := conv_bytes w s
  clear h
  go_enter Tryd.func17, Tryd.ntmps17
  go_wp2_with fail
  go_ret
  exact ⟨rfl, rfl⟩
set_option maxHeartbeats 4000000 in
set_option maxRecDepth 100000 in
theorem leaf_Bytes.none (w : World) : Calls Tryd.prog 17 #[.pointer none] w fun e w' => e = .returned (.slice none 0 0) ∧ w = w' := by
  go_enter Tryd.func17, Tryd.ntmps17
  go_wp2_with fail
  go_ret
  exact ⟨rfl, rfl⟩

set_option maxHeartbeats 4000000 in
set_option maxRecDepth 100000 in
theorem leaf_Weld.calls (b : Nat) (s : ByteArray) (w : World) (h : Lf w b s) : Calls Tryd.prog 13 #[lfP b] w fun e w' => e = .returned (msV (mOf (bytesOf s))) ∧ Below w.heap.size w w' := by
  obtain ⟨m, hm, c0, c1, c2, c3, c4, c5, c6⟩ := (h.alloc (.cells #[.int .i64 0, .int .i64 0, .int .i64 0, .int .i64 0, .string ⟨#[]⟩, .string ⟨#[]⟩] 36)).cells
  rw [hm]
  have hb := h.lt
  have HL := Lib.hid hb
  clear h hm hb c0
  obtain ⟨m1, m2, m3, m4, m5, m6⟩ := m
  dsimp only at c1 c2 c3 c4 c5 c6
  have hne : b ≠ w.heap.size := Nat.ne_of_lt HL.out
  have hne' : w.heap.size ≠ b := Ne.symm hne
  go_enter Tryd.func13, Tryd.ntmps13
  go_wp2_with fail
  exact bodyPost_ret (results_cell_row rfl _ _ w.heap.size 36 #[.int .i64 m1, .int .i64 m2, .int .i64 m3, .int .i64 m4, .string m5, .string m6] (0, 0) _ rfl (blk_new w _) Tryd.underlying36 rfl (by kernel_rfl)) rfl ⟨rfl, (Below.refl _ w).alloc (Nat.le_refl _) _⟩
set_option maxHeartbeats 4000000 in
set_option maxRecDepth 100000 in
theorem leaf_Weld.none (w : World) : Calls Tryd.prog 13 #[.pointer none] w fun e w' => e = .returned (.agg #[.int .i64 0, .int .i64 0, .int .i64 0, .int .i64 0, .string ⟨#[]⟩, .string ⟨#[]⟩]) ∧ Below w.heap.size w w' := by
  go_enter Tryd.func13, Tryd.ntmps13
  go_wp2_with fail
  exact bodyPost_ret (results_cell_row rfl _ _ w.heap.size 36 #[.int .i64 0, .int .i64 0, .int .i64 0, .int .i64 0, .string ⟨#[]⟩, .string ⟨#[]⟩] (0, 0) _ rfl (blk_new w _) Tryd.underlying36 rfl (by kernel_rfl)) rfl ⟨rfl, (Below.refl _ w).alloc (Nat.le_refl _) _⟩

/-! ### place, Before, Split, Join -/
set_option maxHeartbeats 4000000 in
set_option maxRecDepth 100000 in
theorem leaf_place.ok (b : Nat) (s : ByteArray) (n : Nat) (hn : n ≤ s.size) (hs : s.size ≤ 268435456) (w : World) (h : Lf w b s) : Calls Tryd.prog 27 #[lfP b, .int .i64 (n : Int)] w fun e w' => e = .returned (.int .i64 0) ∧ w = w' := by
  have hc := h.text
  have h1 : decide ((n : Int) < 0) = false := decide_eq_false (by omega)
  have h2 : decide ((s.size : Int) < (n : Int)) = false := decide_eq_false (by omega)
  have h3 : decide (s.size < n) = false := decide_eq_false (by omega)
  clear h hn hs
  go_enter Tryd.func27, Tryd.ntmps27
  go_wp2_with fail
  go_ret
  exact ⟨rfl, rfl⟩
set_option maxHeartbeats 4000000 in
set_option maxRecDepth 100000 in
theorem leaf_place.neg (b : Nat) (s : ByteArray) (n : Int) (hn : n < 0) (w : World) (h : Lf w b s) : Calls Tryd.prog 27 #[lfP b, .int .i64 n] w fun e w' => e = .returned (.int .i64 2) ∧ w = w' := by
  have h1 : decide (n < 0) = true := decide_eq_true hn
  clear h hn
  go_enter Tryd.func27, Tryd.ntmps27
  go_wp2_with fail
  go_ret
  exact ⟨rfl, rfl⟩
set_option maxHeartbeats 4000000 in
set_option maxRecDepth 100000 in
theorem leaf_place.high (b : Nat) (s : ByteArray) (n : Int) (hn : (s.size : Int) < n) (w : World) (h : Lf w b s) : Calls Tryd.prog 27 #[lfP b, .int .i64 n] w fun e w' => e = .returned (.int .i64 2) ∧ w = w' := by
  have hc := h.text
  have h1 : decide (n < 0) = false := decide_eq_false (by omega)
  have h2 : decide ((s.size : Int) < n) = true := decide_eq_true (by omega)
  clear h hn
  go_enter Tryd.func27, Tryd.ntmps27
  go_wp2_with fail
  go_ret
  exact ⟨rfl, rfl⟩
set_option maxHeartbeats 4000000 in
set_option maxRecDepth 100000 in
theorem leaf_place.none (n : Int) (w : World) : Calls Tryd.prog 27 #[.pointer none, .int .i64 n] w fun e w' => e = .returned (.int .i64 1) ∧ w = w' := by
  go_enter Tryd.func27, Tryd.ntmps27
  go_wp2_with fail
  go_ret
  exact ⟨rfl, rfl⟩
end Go.Proofs.YtiolhoaoepgmcaaDoor.Pr
