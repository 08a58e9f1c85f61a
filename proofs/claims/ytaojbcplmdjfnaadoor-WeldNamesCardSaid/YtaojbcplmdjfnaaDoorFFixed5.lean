/- The contract of galleylaw05.fixed, by hand: it answers true. Conditions: the package's cells are as laid. -/
import Derived.Test.YtaojbcplmdjfnaaDoorPr10
import Derived.Test.YtaojbcplmdjfnaaDoorPr5
import Derived.Lib.SlBytesConst
import Derived.Outline
namespace Go.Proofs.YtaojbcplmdjfnaaDoor.Pr
open Go.RowKit Go.Proofs.YtaojbcplmdjfnaaDoorW.PrintWords Go.Proofs.YtaojbcplmdjfnaaDoorW.PrintLast Go.Proofs.YtaojbcplmdjfnaaDoorW.PrintMore
set_option linter.unusedVariables false
set_option linter.unusedSimpArgs false

/-- A row that was just laid reads as its list. -/
theorem C_lit (w : World) (e : TypeId) (xs : List Int) (fr : Nat × Nat) (h : xs.length ≤ 9223372036854775807) :
    Kd.C (Kd.int .u8) (w.alloc (.cells (xs.map (Value.int .u8)).toArray e fr)) (some ⟨w.heap.size, 0, none⟩) xs.length xs := by
  refine Kd.C_of_reads (d := (0 : Int)) (h1 := fun _ => rfl) ⟨rfl, h, fun _ => ⟨_, rfl, fun j hj => ?_⟩⟩
  rw [add_plain, cell_of_row _ _ j _ e fr (heap_alloc_new w _)]
  simp [List.getElem?_eq_getElem hj, List.getD_eq_getElem?_getD]

def galleylaw05_fixed.f : Option Bool := some true
set_option maxRecDepth 100000 in
theorem fx1 : weld_Of.f [240, 159] = some (2, 2, 2, 0, ⟨#[240, 159]⟩, ⟨#[240, 159]⟩) := by kernel_rfl
set_option maxRecDepth 100000 in
theorem fx2 : weld_Of.f [152, 128, 13] = some (3, 3, 3, 1, ⟨#[152, 128, 13]⟩, ⟨#[152, 128, 13]⟩) := by kernel_rfl
set_option maxRecDepth 100000 in
theorem fx3 : weld_Join.f 30 2 2 2 0 ⟨#[240, 159]⟩ ⟨#[240, 159]⟩ 3 3 3 1 ⟨#[152, 128, 13]⟩ ⟨#[152, 128, 13]⟩ = some (5, 2, 3, 1, ⟨#[240, 159, 152]⟩, ⟨#[152, 128, 13]⟩, 0) := by kernel_rfl
set_option maxRecDepth 100000 in
theorem fx4 : weld_Seam.f 30 2 2 2 0 ⟨#[240, 159]⟩ ⟨#[240, 159]⟩ 3 3 3 1 ⟨#[152, 128, 13]⟩ ⟨#[152, 128, 13]⟩ = some (0, 3, 2, 0, 0) := by kernel_rfl
set_option maxRecDepth 100000 in
theorem fx5 : weld_Valid.f 30 5 2 3 1 ⟨#[240, 159, 152]⟩ ⟨#[152, 128, 13]⟩ = some true := by kernel_rfl

theorem weld_cells {W : World} {b : Nat} {i1 i2 i3 i4 : Int} {s1 s2 : ByteArray} {t : TypeId} {fr : Nat × Nat} (h : W.heap[b]? = some (.cells #[.int .i64 i1, .int .i64 i2, .int .i64 i3, .int .i64 i4, .string s1, .string s2] t fr)) :
    W.cell? ⟨b, 0, none⟩ = some (.int .i64 i1) ∧ W.cell? ⟨b, 1, none⟩ = some (.int .i64 i2) ∧ W.cell? ⟨b, 2, none⟩ = some (.int .i64 i3) ∧ W.cell? ⟨b, 3, none⟩ = some (.int .i64 i4) ∧ W.cell? ⟨b, 4, none⟩ = some (.string s1) ∧ W.cell? ⟨b, 5, none⟩ = some (.string s2) := by
  refine ⟨?_, ?_, ?_, ?_, ?_, ?_⟩ <;> (rw [cell_of_row _ _ _ _ _ _ h]; rfl)
theorem sizes_cells {W : World} {b : Nat} {i1 i2 i3 i4 : Int} {t : TypeId} {fr : Nat × Nat} (h : W.heap[b]? = some (.cells #[.int .i64 i1, .int .i64 i2, .int .i64 i3, .int .i64 i4] t fr)) :
    W.cell? ⟨b, 0, none⟩ = some (.int .i64 i1) ∧ W.cell? ⟨b, 1, none⟩ = some (.int .i64 i2) ∧ W.cell? ⟨b, 2, none⟩ = some (.int .i64 i3) ∧ W.cell? ⟨b, 3, none⟩ = some (.int .i64 i4) := by
  refine ⟨?_, ?_, ?_, ?_⟩ <;> (rw [cell_of_row _ _ _ _ _ _ h]; rfl)

set_option maxHeartbeats 8000000 in
set_option maxRecDepth 100000 in
theorem galleylaw05_fixed.calls (r : Bool) (w : World) (hG : Glob.Globs w) (h : galleylaw05_fixed.f = some r) :
    Calls Tryd.prog 10 #[] w fun e w' => e = .returned (.bool r) ∧ Below w.heap.size w w' := by
  obtain rfl : true = r := Option.some.inj h
  clear h
  have HG := Lib.hid hG
  clear hG
  have kc := fun (w : World) (C : Array Value) (n c : Nat) => Lib.run_convert_bytes_const (P := Tryd.prog) w 29 5 C n c Tryd.underlying29 Tryd.underlying5
  go_enter Tryd.func10, Tryd.ntmps10
  go_wp2_with fail
  refine (weld_Of.calls _ 2 [240, 159] 2 2 2 0 _ _ _ (Glob.Globs_alloc HG.out _) (C_lit w 5 [240, 159] (2, 3) (by decide)) (by decide) fx1).mono ?_
  rintro e w1 ⟨rfl, hb1⟩
  have B1 : Below w.heap.size w w1 := below_step ((Below.refl _ w).alloc (Nat.le_refl _) _) hb1
  have BB1 := Lib.hid B1
  clear B1 hb1
  go_wp2_with fail
  refine (weld_Of.calls _ 3 [152, 128, 13] 3 3 3 1 _ _ _ (Glob.Globs_alloc (Glob.Globs_below HG.out BB1.out) _) (C_lit w1 5 [152, 128, 13] (3, 4) (by decide)) (by decide) fx2).mono ?_
  rintro e w2 ⟨rfl, hb2⟩
  have B2 : Below w.heap.size w w2 := below_step (BB1.out.alloc BB1.out.size _) hb2
  have BB2 := Lib.hid B2
  clear B2 hb2
  go_wp2_with fail
  refine (weld_Join.calls 30 2 2 2 0 _ _ 3 3 3 1 _ _ 5 2 3 1 _ _ 0 _ ?gj fx3).mono ?_
  case gj => repeat (first | exact Glob.Globs_below HG.out BB2.out | (with_reducible refine Glob.Globs_alloc ?_ _))
  rintro e w3 ⟨rfl, hb3⟩
  have ha := (hb3.block _ (by simp; omega)).trans (blk_alloc (blk_new w2 _) _)
  have hB := (hb3.block _ (by simp)).trans (blk_new (w2.alloc _) _)
  simp only [World.size_alloc] at hB
  have B3 := Lib.hid (below_step ((BB2.out.alloc BB2.out.size _).alloc (Nat.le_trans BB2.out.size (by simp)) _) hb3)
  have hsz : w2.heap.size < w3.heap.size := by have := hb3.size; simp at this; omega
  have hsz1 : w2.heap.size + 1 < w3.heap.size := by have := hb3.size; simp at this; omega
  clear hb3
  have HA := Lib.hid ha
  have HBB := Lib.hid hB
  obtain ⟨a1, a2, a3, a4, a5, a6⟩ := weld_cells ha
  obtain ⟨b1, b2, b3, b4, b5, b6⟩ := weld_cells hB
  clear ha hB
  go_wp2_with fail
  refine (weld_Seam.calls 30 2 2 2 0 _ _ 3 3 3 1 _ _ 0 3 2 0 0 _ ?gj2 fx4).mono ?_
  case gj2 => repeat (first | exact Glob.Globs_below HG.out B3.out | (with_reducible refine Glob.Globs_alloc ?_ _))
  rintro e w4 ⟨rfl, hb4⟩
  have hA4 := (hb4.block _ (by simp; omega)).trans (blk_alloc HA.out _)
  have hC4 := (hb4.block _ (by simp)).trans (blk_new w3 _)
  have B4 := Lib.hid (below_step (B3.out.alloc B3.out.size _) hb4)
  have hsz4 : w3.heap.size < w4.heap.size := by have := hb4.size; simp at this; omega
  have hsz5 : w2.heap.size < w4.heap.size := by omega
  clear hb4 a1 a2 a3 a4 a5 a6 b1 b2 b3 b4 b5 b6
  have HC4 := Lib.hid hC4
  obtain ⟨a1, a2, a3, a4, a5, a6⟩ := weld_cells hA4
  obtain ⟨c1, c2, c3, c4, c5, c6⟩ := weld_cells hC4
  clear hA4 hC4
  go_wp2_with fail
  refine (weld_Valid.calls 30 5 2 3 1 _ _ true _ ?gj3 fx5).mono ?_
  case gj3 => repeat (first | exact Glob.Globs_below HG.out B4.out | (with_reducible refine Glob.Globs_alloc ?_ _))
  rintro e w5 ⟨rfl, hb5⟩
  have B5 := Lib.hid (below_step (B4.out.alloc B4.out.size _) hb5)
  clear hb5
  go_wp2_with fail
  go_ret
  exact ⟨rfl, B5.out⟩
end Go.Proofs.YtaojbcplmdjfnaaDoor.Pr
