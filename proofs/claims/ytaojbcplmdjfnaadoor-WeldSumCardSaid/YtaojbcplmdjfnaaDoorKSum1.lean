/- Part 1 of the lemmas on which the card weldSum_card stands (its sentence and conditions stand in the last text). Conditions: as each lemma says. -/
import Derived.Test.YtaojbcplmdjfnaaDoorKSum0
import Derived.Test.YtaojbcplmdjfnaaDoorProg
import Derived.Below
import Derived.Deep.Draws
import Derived.OpenShut
import Derived.ProofKit
import Derived.Lib.LaidTab
import Derived.Laws.Rows
import Derived.KernelRfl
import Derived.Test.YtaojbcplmdjfnaaDoorCards
import Derived.Test.YtaojbcplmdjfnaaDoorTie
import Derived.WalkKit
import Derived.Deep.DeepHandedRow
import Derived.LaidSub
import Derived.Lib.ConvBytes
import Derived.Lib.SlBytesConst
import Derived.Deep.AppendLies
import Derived.Maps.AppendAt
import Derived.OwnWalk
import Derived.Laws.BytesArg
import Derived.Laws.MakeOwn
import Derived.Laws.OwnMore
import Derived.Deep.OwnRows
import Derived.Tactics
import Derived.Laws.Slices
import Derived.RowKit3
import Derived.Deep.LoopGhost
import Derived.Deep.QuietTactic
import Derived.BigQuiet
import Derived.WideLaws
import Derived.Deep.DeepCutAuto
import Derived.Deep.CutBlock
import Derived.Deep.RegionHeld3
import Derived.Lib.AppendStr
import Derived.ArgAppend
import Derived.Laws.IdiomCopy
import Derived.OrdersHeld
import Derived.Laws.BitsLemmas
import Derived.RowKit
import Derived.Lib.OthersKept
import Derived.Lib.Strings
import Derived.Lib.Slices
import Derived.Lib.Walk
import Derived.Lib.Hide
import Derived.Outline
import Derived.WalkSpells
import Derived.RangeFuncNested
import Derived.RangeFuncBound
import Derived.RangeFuncCalls
import Derived.RangeFuncLeaves
import Derived.RangeFuncBox
import Derived.Shelf.Abstract
import Derived.Shelf.RegionOpen
import Derived.OwnWalkIn
import Derived.TacticsInMore
import Derived.LoopNIn
import Derived.LoopIn
namespace Go.Proofs.YtaojbcplmdjfnaaDoor.Glob
open Go.RowKit
def spansC : Array Value := #[.int .i64 0, .int .i64 127, .int .i64 1, .int .i64 128, .int .i64 191, .int .i64 2, .int .i64 192, .int .i64 193, .int .i64 6, .int .i64 194, .int .i64 223, .int .i64 3, .int .i64 224, .int .i64 239, .int .i64 4, .int .i64 240, .int .i64 244, .int .i64 5, .int .i64 245, .int .i64 255, .int .i64 6]
def needsC : Array Value := #[.int .i64 0, .int .i64 1, .int .i64 0, .int .i64 2, .int .i64 3, .int .i64 4, .int .i64 0]
def badC : Array Value := #[.int .i32 65533, .int .i64 1, .bool false]
def masksC : Array Value := #[.int .u8 0, .int .u8 127, .int .u8 31, .int .u8 15, .int .u8 7]
def Globs (w : World) : Prop :=
  (∃ t fr, w.heap[3]? = some (.cells spansC t fr)) ∧ (∃ t fr, w.heap[2]? = some (.cells needsC t fr)) ∧ (∃ t fr, w.heap[1]? = some (.cells masksC t fr)) ∧ (∃ t fr, w.heap[0]? = some (.cells badC t fr))
theorem lt_of_heap {w : World} {k : Nat} {o : Obj} (h : w.heap[k]? = some o) : k < w.heap.size := (Array.getElem?_eq_some_iff.1 h).1
theorem Globs_of {w w' : World} (h : Globs w) (hk : ∀ k, k < w.heap.size → w'.heap[k]? = w.heap[k]?) : Globs w' := by
  obtain ⟨⟨t0, f0, h0⟩, ⟨t1, f1, h1⟩, ⟨t2, f2, h2⟩, ⟨t3, f3, h3⟩⟩ := h
  exact ⟨⟨t0, f0, (hk _ (lt_of_heap h0)).trans h0⟩, ⟨t1, f1, (hk _ (lt_of_heap h1)).trans h1⟩, ⟨t2, f2, (hk _ (lt_of_heap h2)).trans h2⟩, ⟨t3, f3, (hk _ (lt_of_heap h3)).trans h3⟩⟩
theorem Globs_below {w w' : World} (h : Globs w) (hb : Below w.heap.size w w') : Globs w' := Globs_of h hb.block
theorem Globs_alloc {w : World} (h : Globs w) (o : Obj) : Globs (w.alloc o) := Globs_of h fun k hk => Below.heap_alloc w o k hk
theorem Globs.spans {w : World} (h : Globs w) : ∃ t fr, w.heap[3]? = some (.cells spansC t fr) := h.1
theorem Globs.needs_cell {w : World} (h : Globs w) (i : Nat) : w.cell? ⟨2, i, none⟩ = needsC[i]? := by
  obtain ⟨_, ⟨t0, f0, h0⟩, _⟩ := h
  exact cell_of_row w _ i _ t0 f0 h0
theorem Globs.masks_cell {w : World} (h : Globs w) (i : Nat) : w.cell? ⟨1, i, none⟩ = masksC[i]? := by
  obtain ⟨_, _, ⟨t0, f0, h0⟩, _⟩ := h
  exact cell_of_row w _ i _ t0 f0 h0
theorem Globs.bad {w : World} (h : Globs w) : ∃ t fr, w.heap[0]? = some (.cells badC t fr) := h.2.2.2
end Go.Proofs.YtaojbcplmdjfnaaDoor.Glob
namespace Go.Proofs.YtaojbcplmdjfnaaDoor.Pr
def drop1 (l : List Int) : List Int := l.drop 1
def strOfRune (r : Int) : ByteArray := Utf8.encode r
theorem run_convert_rune {P : Program} (w : World) (src dst : TypeId) (n : Int) (hs : P.underlying src = some (.int .i32)) (hd : P.underlying dst = some .string) :
    (convert src dst (.int .i32 n)).run P w = .ok (.string (strOfRune n)) w := by
  simp [convert, run_underlying hs, run_underlying hd, Conv.intToString, strOfRune]
end Go.Proofs.YtaojbcplmdjfnaaDoor.Pr

namespace Go.Proofs.YtaojbcplmdjfnaaDoor.Laid
open Go.ChangeShapes Go.WideShapes Go.ChangeAt Go.RowKit
set_option linter.unusedVariables false
set_option linter.unusedSimpArgs false
theorem gSpans : Tryd.prog.globalNamed "galley/octet.spans" = some 3 := by kernel_rfl
theorem gNeeds : Tryd.prog.globalNamed "galley/octet.needs" = some 2 := by kernel_rfl
theorem gMasks : Tryd.prog.globalNamed "galley/octet.masks" = some 1 := by kernel_rfl
theorem tySpans : (Tryd.prog.globals[3]?).map (·.type) = some 87 := by kernel_rfl
theorem tyNeeds : (Tryd.prog.globals[2]?).map (·.type) = some 84 := by kernel_rfl
theorem tyMasks : (Tryd.prog.globals[1]?).map (·.type) = some 78 := by kernel_rfl
theorem gBad : Tryd.prog.globalNamed "galley/step.bad" = some 0 := by kernel_rfl
theorem tyBad : (Tryd.prog.globals[0]?).map (·.type) = some 57 := by kernel_rfl
theorem cStep : Tryd.prog.cellsOf 57 = 3 := by kernel_rfl
theorem cRune : Tryd.prog.cellsOf 21 = 1 := by kernel_rfl
theorem cBool : Tryd.prog.cellsOf 4 = 1 := by kernel_rfl
theorem cInt : Tryd.prog.cellsOf 3 = 1 := by kernel_rfl
theorem cCls : Tryd.prog.cellsOf 81 = 1 := by kernel_rfl
theorem cU8 : Tryd.prog.cellsOf 5 = 1 := by kernel_rfl
theorem cSpan : Tryd.prog.cellsOf 86 = 3 := by kernel_rfl
theorem cSpans : Tryd.prog.cellsOf 87 = 21 := by kernel_rfl
theorem cNeeds : Tryd.prog.cellsOf 84 = 7 := by kernel_rfl
theorem cMasks : Tryd.prog.cellsOf 78 = 5 := by kernel_rfl
theorem heap_of_var {W : World} {n : String} {g : Nat} {cs : Array Value} (hg : Tryd.prog.globalNamed n = some g) (hv : W.var? Tryd.prog n = some cs) : ∃ t fr, W.heap[g]? = some (.cells cs t fr) := by
  unfold World.var? at hv
  rw [hg] at hv
  simp only [Option.bind_some] at hv
  split at hv
  · rename_i c t fr h
    obtain rfl := Option.some.inj hv
    exact ⟨t, fr, h⟩
  · cases hv
theorem span_cells {W : World} {base : Nat} {sp : Nat → Bool} {held : Bool} {fuel : Nat} {cs : List Value} {a b c : Int} {p : List MemPlace}
    (h : DataW.trod (fun _ => ()) Tryd.prog W base sp held fuel 86 cs = some (.agg [.lit (.int .i64 a), .lit (.int .i64 b), .lit (.int .i64 c)], p)) : cs = [.int .i64 a, .int .i64 b, .int .i64 c] := by
  obtain ⟨xs, n, rfl, hx, hl, hxl, hf⟩ := DataW.trod_struct Tryd.underlying86 h
  rw [cSpan] at hl
  match cs, hl with
  | [c0, c1, c2], _ =>
    match xs, hxl with
    | [y0, y1, y2], _ =>
      have e := congrArg Prod.fst hx
      simp at e
      obtain ⟨e0, e1, e2⟩ := e
      have f0 := hf 0 _ rfl
      have f1 := hf 1 _ rfl
      have f2 := hf 2 _ rfl
      simp only [cInt, cCls, List.drop_zero, List.drop_succ_cons, List.take_succ_cons, List.take_zero, List.getElem?_cons_zero, List.getElem?_cons_succ] at f0 f1 f2
      obtain ⟨n0, g0, k0, _⟩ := DataW.trod_int Tryd.underlying3 f0
      obtain ⟨n1, g1, k1, _⟩ := DataW.trod_int Tryd.underlying3 f1
      obtain ⟨n2, g2, k2, _⟩ := DataW.trod_int Tryd.underlying81 f2
      subst k0 k1 k2
      simp [cInt, cCls] at e0 e1 e2 g0 g1 g2
      subst e0 e1 e2 g0 g1 g2
      rfl
theorem seven {l : List Value} (h : l.length = 21) : l = ((l.drop (0 * 3)).take 3) ++ ((l.drop (1 * 3)).take 3) ++ ((l.drop (2 * 3)).take 3) ++ ((l.drop (3 * 3)).take 3) ++ ((l.drop (4 * 3)).take 3) ++ ((l.drop (5 * 3)).take 3) ++ ((l.drop (6 * 3)).take 3) := by
  match l, h with
  | [a0, a1, a2, a3, a4, a5, a6, a7, a8, a9, a10, a11, a12, a13, a14, a15, a16, a17, a18, a19, a20], _ => rfl
theorem spans_cells {W : World} {base : Nat} {sp : Nat → Bool} {held : Bool} {fuel : Nat} {cs : List Value} {p : List MemPlace}
    (h : DataW.trod (fun _ => ()) Tryd.prog W base sp held fuel 87 cs = some (Rows.laid_galley_octet_spans, p)) : cs = Glob.spansC.toList := by
  obtain ⟨xs, m, rfl, hx, hl, hxl, hf⟩ := DataW.trod_array Tryd.underlying87 h
  rw [cSpans] at hl
  match xs, hxl with
  | [y0, y1, y2, y3, y4, y5, y6], _ =>
    have e := congrArg Prod.fst hx
    simp [Rows.laid_galley_octet_spans] at e
    obtain ⟨e0, e1, e2, e3, e4, e5, e6⟩ := e
    have f0 := hf 0 (by omega)
    have f1 := hf 1 (by omega)
    have f2 := hf 2 (by omega)
    have f3 := hf 3 (by omega)
    have f4 := hf 4 (by omega)
    have f5 := hf 5 (by omega)
    have f6 := hf 6 (by omega)
    simp only [cSpan, List.getElem?_cons_zero, List.getElem?_cons_succ] at f0 f1 f2 f3 f4 f5 f6
    have s0 := span_cells (f0.trans (congrArg some (Prod.ext e0.symm rfl : y0 = (_, y0.2))))
    have s1 := span_cells (f1.trans (congrArg some (Prod.ext e1.symm rfl : y1 = (_, y1.2))))
    have s2 := span_cells (f2.trans (congrArg some (Prod.ext e2.symm rfl : y2 = (_, y2.2))))
    have s3 := span_cells (f3.trans (congrArg some (Prod.ext e3.symm rfl : y3 = (_, y3.2))))
    have s4 := span_cells (f4.trans (congrArg some (Prod.ext e4.symm rfl : y4 = (_, y4.2))))
    have s5 := span_cells (f5.trans (congrArg some (Prod.ext e5.symm rfl : y5 = (_, y5.2))))
    have s6 := span_cells (f6.trans (congrArg some (Prod.ext e6.symm rfl : y6 = (_, y6.2))))
    rw [seven hl, s0, s1, s2, s3, s4, s5, s6]
    rfl
theorem arr_eq {a : Array Value} {l : List Value} (h : a.toList = l) : a = l.toArray := by rw [← h]
theorem bad_cells {W : World} {base : Nat} {sp : Nat → Bool} {held : Bool} {fuel : Nat} {cs : List Value} {p : List MemPlace}
    (h : DataW.trod (fun _ => ()) Tryd.prog W base sp held fuel 57 cs = some (Rows.laid_galley_step_bad, p)) : cs = Glob.badC.toList := by
  obtain ⟨xs, n, rfl, hx, hl, hxl, hf⟩ := DataW.trod_struct Tryd.underlying57 h
  rw [cStep] at hl
  match cs, hl with
  | [c0, c1, c2], _ =>
    match xs, hxl with
    | [y0, y1, y2], _ =>
      have e := congrArg Prod.fst hx
      simp [Rows.laid_galley_step_bad] at e
      obtain ⟨e0, e1, e2⟩ := e
      have f0 := hf 0 _ rfl
      have f1 := hf 1 _ rfl
      have f2 := hf 2 _ rfl
      simp only [cRune, cInt, cBool, List.drop_zero, List.drop_succ_cons, List.take_succ_cons, List.take_zero, List.getElem?_cons_zero, List.getElem?_cons_succ] at f0 f1 f2
      obtain ⟨n0, g0, k0, _⟩ := DataW.trod_int Tryd.underlying21 f0
      obtain ⟨n1, g1, k1, _⟩ := DataW.trod_int Tryd.underlying3 f1
      obtain ⟨n2, g2, k2⟩ := DataW.trod_bool Tryd.underlying4 f2
      subst k0 k1 k2
      simp [cRune, cInt, cBool] at e0 e1 e2 g0 g1 g2
      subst e0 e1 e2 g0 g1 g2
      rfl
theorem globs_of {W : World} {r : List (String × DataW Unit)} (h : laidMet Tryd.prog (("galley/octet.spans", Rows.laid_galley_octet_spans) :: ("galley/octet.needs", Rows.laid_galley_octet_needs) :: ("galley/octet.masks", Rows.laid_galley_octet_masks) :: ("galley/step.bad", Rows.laid_galley_step_bad) :: r) W) : Glob.Globs W := by
  obtain ⟨ps, ⟨g0, t0, c0, u0, p0, q0, hg0, ht0, hv0, hd0, ⟨g1, t1, c1, u1, p1, q1, hg1, ht1, hv1, hd1, ⟨g2, t2, c2, u2, p2, q2, hg2, ht2, hv2, hd2, ⟨g3, t3, c3, u3, p3, q3, hg3, ht3, hv3, hd3, _, _⟩, _⟩, _⟩, _⟩, _⟩ := h
  obtain rfl := Option.some.inj (gSpans.symm.trans hg0)
  obtain rfl := Option.some.inj (gNeeds.symm.trans hg1)
  obtain rfl := Option.some.inj (gMasks.symm.trans hg2)
  obtain rfl := Option.some.inj (gBad.symm.trans hg3)
  obtain rfl := Option.some.inj (tySpans.symm.trans ht0)
  obtain rfl := Option.some.inj (tyNeeds.symm.trans ht1)
  obtain rfl := Option.some.inj (tyMasks.symm.trans ht2)
  obtain rfl := Option.some.inj (tyBad.symm.trans ht3)
  have k0 := arr_eq (spans_cells hd0)
  have k1 := arr_eq (Lib.cells_of_tab (k := .i64) (zs := [0, 1, 0, 2, 3, 4, 0]) Tryd.underlying84 Tryd.underlying3 cInt cNeeds hd1)
  have k2 := arr_eq (Lib.cells_of_tab (k := .u8) (zs := [0, 127, 31, 15, 7]) Tryd.underlying78 Tryd.underlying5 cU8 cMasks hd2)
  have k3 := arr_eq (bad_cells hd3)
  subst k0 k1 k2 k3
  exact ⟨heap_of_var gSpans hv0, heap_of_var gNeeds hv1, heap_of_var gMasks hv2, heap_of_var gBad hv3⟩
end Go.Proofs.YtaojbcplmdjfnaaDoor.Laid

namespace Go.Proofs.YtaojbcplmdjfnaaDoorW.PrintWords
open Go.RowKit
theorem below_bytes {w0 w : World} (e : TypeId) (s : ByteArray) (base : Nat) (HB : Below base w0 w) (hb : base ≤ w.heap.size) : Below base w0 (Lib.bytesWorld w e s) := by
  refine ⟨HB.os, HB.tape, HB.output, ?_, fun k hk => ?_⟩
  · rw [Lib.bytesWorld_size]; exact Nat.le_trans HB.size (Nat.le_succ _)
  · rw [Lib.bytesWorld_at_old _ _ _ _ (Nat.lt_of_lt_of_le hk hb)]; exact HB.block k hk
theorem bytesCells_len (w : World) (e : TypeId) (s : ByteArray) : s.size ≤ grownCap w s.size 0 e := grownCap_ge _ _ _ _
theorem F_bytes (w : World) (e : TypeId) (s : ByteArray) (ok : Nat → Prop) (hok : ok w.heap.size) (hm : s.size ≤ 9223372036854775807) :
    Kd.F (Kd.int .u8) (Lib.bytesWorld w e s) ok (some ⟨w.heap.size, 0, none⟩) (bytesOf s).length (bytesOf s) := by
  intro W' hW
  have hb : W'.heap[w.heap.size]? = (Lib.bytesWorld w e s).heap[w.heap.size]? := hW _ hok (by rw [Lib.bytesWorld_size]; exact Nat.lt_succ_self _)
  obtain ⟨h1, h2, h3⟩ := bytes_reads w e s hm
  refine Kd.C_of_reads (d := (0 : Int)) (h1 := fun _ => rfl) ⟨rfl, by rw [bytesOf_length]; exact hm, fun hp => ?_⟩
  obtain ⟨ad, had, hc⟩ := h3 (by rw [← h1]; exact hp)
  obtain rfl : (⟨w.heap.size, 0, none⟩ : Addr) = ad := by injection had
  refine ⟨_, rfl, fun j hj => ?_⟩
  rw [World.cell?_of_block (w := Lib.bytesWorld w e s) (w' := W') (a := (⟨w.heap.size, 0, none⟩ : Addr).add j) (by rw [add_plain]; exact hb)]
  exact hc j (by rw [← h1]; exact hj)
namespace Kd
section
variable {P : Program} {ops : Array Oper} {rest : List Oper} {o : Oper} {a : Act} {Q : Exit → Act → World → Prop} {Kc : Act → World → Prop}
theorem grown_bytes (W : World) (e : TypeId) (s : ByteArray) : W.grownBy (Lib.bytesWorld W e s) none :=
  ⟨rfl, rfl, rfl, by rw [Lib.bytesWorld_size]; exact Nat.le_succ _, fun k hk _ => Lib.bytesWorld_at_old _ _ _ _ hk⟩
theorem V_bytes_step {w0 W : World} (base e : Nat) (hw : Region.wanted o (yielded ops a.tmps) = true) {N : Tmp} (_hd : o.dst = some N) {src dst : TypeId} {x : Operand} {s : ByteArray} {ok : Nat → Prop}
    (ho : o.op = .convert src dst x) (hx : a.eval x = .string s) (hs : P.underlying src = some .string) (hd : P.underlying dst = some (.slice e)) (he : P.underlying e = some (.int .u8))
    (hfresh : ok W.heap.size) (HB : Below base w0 W) (hbase : base ≤ W.heap.size) (hm : s.size ≤ 9223372036854775807)
    (h : ∀ v1 w1, Kd.V (Kd.int .u8) e w1 base ok v1 (bytesOf s) → Below base w0 w1 → W.grownBy w1 none → (∃ b, v1.ownBlock = some b ∧ W.heap.size ≤ b) → Kc (a.put o.dst v1) w1) : if Region.wanted o (yielded ops a.tmps) = true then Oper.wp P o a W Kc Q else Kc (a.put o.dst undef) W := by
  refine event_step (w1 := Lib.bytesWorld W e s) (v := .slice (some ⟨W.heap.size, 0, none⟩) s.size (grownCap W s.size 0 e)) hw ?_ (h _ _ ?_ (below_bytes e s base HB hbase) (grown_bytes W e s) ⟨W.heap.size, by simp [Value.ownBlock], Nat.le_refl _⟩)
  · have := Lib.run_convert_string_bytes W src dst e s hs hd he
    simp [execOp, ho, hx, this]
  · rw [← bytesOf_length s]
    exact V_mk (by rw [bytesOf_length]; exact bytesCells_len W e s) (F_bytes W e s ok hfresh hm)
end
end Kd
end Go.Proofs.YtaojbcplmdjfnaaDoorW.PrintWords

namespace Go.Proofs.YtaojbcplmdjfnaaDoor.Pr
open Go.RowKit Go.Proofs.YtaojbcplmdjfnaaDoorW.PrintWords Go.Proofs.YtaojbcplmdjfnaaDoorW.PrintLast Go.Proofs.YtaojbcplmdjfnaaDoorW.PrintMore
attribute [local go_sem] max2_int min2_int max_two min_two max_three min_three max_four min_four   -- for this text's walks alone
set_option linter.unusedVariables false
set_option linter.unusedSimpArgs false
def errW : Option Int → Value
 | none => .nilIface
 | some c => .iface 0 (.int .i64 c)
theorem errW_none : errW none = .nilIface := rfl
theorem errW_some (c : Int) : errW (some c) = .iface 0 (.int .i64 c) := rfl
theorem info3 : (Tryd.prog.info? 3).map (fun i => (i.zero, i.size, i.bytes)) = some (some (.int .i64 0), 1, 8) := by kernel_rfl
theorem info5 : (Tryd.prog.info? 5).map (fun i => (i.zero, i.size, i.bytes)) = some (some (.int .u8 0), 1, 1) := by kernel_rfl
theorem info26 : (Tryd.prog.info? 26).map (fun i => (i.zero, i.size, i.bytes)) = some (some (.agg #[(.int .i64 0), (.int .i64 0), (.int .i64 0), (.int .i64 0), (.string ⟨#[]⟩), (.string ⟨#[]⟩)]), 6, 64) := by kernel_rfl
theorem info57 : (Tryd.prog.info? 57).map (fun i => (i.zero, i.size, i.bytes)) = some (some (.agg #[(.int .i32 0), (.int .i64 0), (.bool false)]), 3, 24) := by kernel_rfl
-- the values' own types
structure S24 where
 f0 : Int
 f1 : Int
 f2 : Int
 f3 : Int
def z24 : S24 := ⟨(0 : Int), (0 : Int), (0 : Int), (0 : Int)⟩
def k24 : Kd S24 := Kd.iso (Kd.pair (Kd.int .i64) (Kd.pair (Kd.int .i64) (Kd.pair (Kd.int .i64) (Kd.int .i64)))) (fun x : S24 => (x.f0, x.f1, x.f2, x.f3))
theorem k24_open {w : World} {x : S24} {cs : List Value} (h : k24.K w x cs) : cs = [.int .i64 x.f0, .int .i64 x.f1, .int .i64 x.f2, .int .i64 x.f3] := by
 obtain ⟨_, _, rfl, rfl, ⟨_, _, rfl, rfl, ⟨_, _, rfl, rfl, rfl⟩⟩⟩ := h
 exact rfl
theorem k24_mk (w : World) (x : S24)  : k24.K w x [.int .i64 x.f0, .int .i64 x.f1, .int .i64 x.f2, .int .i64 x.f3] := ⟨[.int .i64 x.f0], [.int .i64 x.f1, .int .i64 x.f2, .int .i64 x.f3], rfl, rfl, ⟨[.int .i64 x.f1], [.int .i64 x.f2, .int .i64 x.f3], rfl, rfl, ⟨[.int .i64 x.f2], [.int .i64 x.f3], rfl, rfl, rfl⟩⟩⟩
structure S26 where
 f0 : S24
 f1 : ByteArray
 f2 : ByteArray
def z26 : S26 := ⟨z24, (⟨#[]⟩ : ByteArray), (⟨#[]⟩ : ByteArray)⟩
def k26 : Kd S26 := Kd.iso (Kd.pair k24 (Kd.pair Kd.string Kd.string)) (fun x : S26 => (x.f0, x.f1, x.f2))
theorem k26_open {w : World} {x : S26} {cs : List Value} (h : k26.K w x cs) : cs = [.int .i64 x.f0.f0, .int .i64 x.f0.f1, .int .i64 x.f0.f2, .int .i64 x.f0.f3, .string x.f1, .string x.f2] := by
 obtain ⟨_, _, rfl, s0, ⟨_, _, rfl, rfl, rfl⟩⟩ := h
 obtain rfl := k24_open s0
 exact rfl
theorem k26_mk (w : World) (x : S26)  : k26.K w x [.int .i64 x.f0.f0, .int .i64 x.f0.f1, .int .i64 x.f0.f2, .int .i64 x.f0.f3, .string x.f1, .string x.f2] := ⟨[.int .i64 x.f0.f0, .int .i64 x.f0.f1, .int .i64 x.f0.f2, .int .i64 x.f0.f3], [.string x.f1, .string x.f2], rfl, (k24_mk w x.f0 ), ⟨[.string x.f1], [.string x.f2], rfl, rfl, rfl⟩⟩
def rd_T26 (xs : List S26) (i : Int) : S26 := xs.getD i.toNat z26
theorem at_T26 {w : World} {A : Option Addr} {n : Nat} {xs : List S26} (h : Kd.C k26 w A n xs) (i : Int) (h0 : 0 ≤ i) (h1 : i < n) : ∃ ad , A = some ad ∧ w.cell? (ad.add (i.toNat * 6)) = some (.int .i64 (rd_T26 xs i).f0.f0) ∧ w.cell? ⟨(ad.add (i.toNat * 6)).block, (ad.add (i.toNat * 6)).off + 1, none⟩ = some (.int .i64 (rd_T26 xs i).f0.f1) ∧ w.cell? ⟨(ad.add (i.toNat * 6)).block, (ad.add (i.toNat * 6)).off + 2, none⟩ = some (.int .i64 (rd_T26 xs i).f0.f2) ∧ w.cell? ⟨(ad.add (i.toNat * 6)).block, (ad.add (i.toNat * 6)).off + 3, none⟩ = some (.int .i64 (rd_T26 xs i).f0.f3) ∧ w.cell? ⟨(ad.add (i.toNat * 6)).block, (ad.add (i.toNat * 6)).off + 4, none⟩ = some (.string (rd_T26 xs i).f1) ∧ w.cell? ⟨(ad.add (i.toNat * 6)).block, (ad.add (i.toNat * 6)).off + 5, none⟩ = some (.string (rd_T26 xs i).f2) := by
 obtain ⟨ad, c, e, _, hK, hc0⟩ := Kd.C_get h z26 i h0 h1
 have hc : ∀ j u, c[j]? = some u → w.cell? (ad.add (i.toNat * 6 + j)) = some u := hc0
 obtain rfl := k26_open hK
 exact ⟨ad, e, hc 0 _ rfl, by rw [← add_field _ _ 1 (by omega)]; exact hc 1 _ rfl, by rw [← add_field _ _ 2 (by omega)]; exact hc 2 _ rfl, by rw [← add_field _ _ 3 (by omega)]; exact hc 3 _ rfl, by rw [← add_field _ _ 4 (by omega)]; exact hc 4 _ rfl, by rw [← add_field _ _ 5 (by omega)]; exact hc 5 _ rfl⟩
structure S57 where
 f0 : Int
 f1 : Int
 f2 : Bool
def z57 : S57 := ⟨(0 : Int), (0 : Int), false⟩
def k57 : Kd S57 := Kd.iso (Kd.pair (Kd.int .i32) (Kd.pair (Kd.int .i64) Kd.bool)) (fun x : S57 => (x.f0, x.f1, x.f2))
theorem k57_open {w : World} {x : S57} {cs : List Value} (h : k57.K w x cs) : cs = [.int .i32 x.f0, .int .i64 x.f1, .bool x.f2] := by
 obtain ⟨_, _, rfl, rfl, ⟨_, _, rfl, rfl, rfl⟩⟩ := h
 exact rfl
theorem k57_mkM (w : World) (base : Nat) (ok : Nat → Prop) (x : S57)  : k57.M w base ok x [.int .i32 x.f0, .int .i64 x.f1, .bool x.f2] := ⟨[.int .i32 x.f0], [.int .i64 x.f1, .bool x.f2], rfl, rfl, ⟨[.int .i64 x.f1], [.bool x.f2], rfl, rfl, rfl⟩⟩
def rd_T57 (xs : List S57) (i : Int) : S57 := xs.getD i.toNat z57
theorem at_T57 {w : World} {A : Option Addr} {n : Nat} {xs : List S57} (h : Kd.C k57 w A n xs) (i : Int) (h0 : 0 ≤ i) (h1 : i < n) : ∃ ad , A = some ad ∧ w.cell? (ad.add (i.toNat * 3)) = some (.int .i32 (rd_T57 xs i).f0) ∧ w.cell? ⟨(ad.add (i.toNat * 3)).block, (ad.add (i.toNat * 3)).off + 1, none⟩ = some (.int .i64 (rd_T57 xs i).f1) ∧ w.cell? ⟨(ad.add (i.toNat * 3)).block, (ad.add (i.toNat * 3)).off + 2, none⟩ = some (.bool (rd_T57 xs i).f2) := by
 obtain ⟨ad, c, e, _, hK, hc0⟩ := Kd.C_get h z57 i h0 h1
 have hc : ∀ j u, c[j]? = some u → w.cell? (ad.add (i.toNat * 3 + j)) = some u := hc0
 obtain rfl := k57_open hK
 exact ⟨ad, e, hc 0 _ rfl, by rw [← add_field _ _ 1 (by omega)]; exact hc 1 _ rfl, by rw [← add_field _ _ 2 (by omega)]; exact hc 2 _ rfl⟩
end Go.Proofs.YtaojbcplmdjfnaaDoor.Pr

namespace Go.Proofs.YtaojbcplmdjfnaaDoor.Pr
open Go.RowKit Go.Proofs.YtaojbcplmdjfnaaDoorW.PrintWords Go.Proofs.YtaojbcplmdjfnaaDoorW.PrintLast Go.Proofs.YtaojbcplmdjfnaaDoorW.PrintMore
attribute [local go_sem] max2_int min2_int max_two min_two max_three min_three max_four min_four   -- for this text's walks alone
set_option linter.unusedVariables false
set_option linter.unusedSimpArgs false
theorem eqA24 (d : Nat) (w : World) (x0 y0 : Int) (x1 y1 : Int) (x2 y2 : Int) (x3 y3 : Int) :
  (Op.equalIn (d + 2) 24 (.agg #[.int .i64 x0, .int .i64 x1, .int .i64 x2, .int .i64 x3]) (.agg #[.int .i64 y0, .int .i64 y1, .int .i64 y2, .int .i64 y3])).run Tryd.prog w = .ok (x0 == y0 && (x1 == y1 && (x2 == y2 && (x3 == y3)))) w := by
 refine eqA_of Tryd.underlying24 (by kernel_rfl) ?_
 refine eqf_cons (by rfl) (by go_simp; rfl) (by go_simp; rfl) (by go_simp) ?_
 refine eqf_cons (by rfl) (by go_simp; rfl) (by go_simp; rfl) (by go_simp) ?_
 refine eqf_cons (by rfl) (by go_simp; rfl) (by go_simp; rfl) (by go_simp) ?_
 exact eqf_last (by rfl) (by go_simp; rfl) (by go_simp; rfl) (by go_simp)
end Go.Proofs.YtaojbcplmdjfnaaDoor.Pr

namespace Go.Proofs.YtaojbcplmdjfnaaDoor.Pr
open Go.RowKit Go.Proofs.YtaojbcplmdjfnaaDoorW.PrintWords Go.Proofs.YtaojbcplmdjfnaaDoorW.PrintLast Go.Proofs.YtaojbcplmdjfnaaDoorW.PrintMore
attribute [local go_sem] max2_int min2_int max_two min_two max_three min_three max_four min_four   -- for this text's walks alone
set_option linter.unusedVariables false
set_option linter.unusedSimpArgs false
theorem eqA26 (d : Nat) (w : World) (x0 y0 : Int) (x1 y1 : Int) (x2 y2 : Int) (x3 y3 : Int) (x4 y4 : ByteArray) (x5 y5 : ByteArray) :
  (Op.equalIn (d + 3) 26 (.agg #[.int .i64 x0, .int .i64 x1, .int .i64 x2, .int .i64 x3, .string x4, .string x5]) (.agg #[.int .i64 y0, .int .i64 y1, .int .i64 y2, .int .i64 y3, .string y4, .string y5])).run Tryd.prog w = .ok ((x0 == y0 && (x1 == y1 && (x2 == y2 && (x3 == y3)))) && (x4.toList == y4.toList && (x5.toList == y5.toList))) w := by
 refine eqA_of Tryd.underlying26 (by kernel_rfl) ?_
 refine eqf_cons (by rfl) (by go_simp) (by go_simp) (eqA24 (d + 0) w _ _ _ _ _ _ _ _) ?_
 refine eqf_cons (by rfl) (by go_simp; rfl) (by go_simp; rfl) (by go_simp) ?_
 exact eqf_last (by rfl) (by go_simp; rfl) (by go_simp; rfl) (by go_simp)
end Go.Proofs.YtaojbcplmdjfnaaDoor.Pr

namespace Go.Proofs.YtaojbcplmdjfnaaDoor.Pr
open Go.RowKit Go.Proofs.YtaojbcplmdjfnaaDoorW.PrintWords Go.Proofs.YtaojbcplmdjfnaaDoorW.PrintLast Go.Proofs.YtaojbcplmdjfnaaDoorW.PrintMore
set_option linter.unusedVariables false
set_option linter.unusedSimpArgs false
set_option maxHeartbeats 1000000 in
theorem hasPrefix_calls (s p : ByteArray) (w : World) :
    Calls Tryd.prog 43 #[.string s, .string p] w fun e w' => e = .returned (.bool (Lib.hasPrefix s.data.toList p.data.toList)) ∧ w' = w := by
  rw [← Lib.hasPrefix_of_take, ← Lib.size_eq, ← Lib.size_eq]
  go_enter Tryd.func43, Tryd.ntmps43
  go_wp2
  · rename_i h
    go_ret
    refine ⟨?_, rfl⟩
    show Ending.returned (Value.bool ((s.extract 0 p.size).toList == p.toList)) = _
    rw [Lib.extract_toList, Lib.toList_data]
    simp [h]
  · rename_i h
    go_ret
    refine ⟨?_, rfl⟩
    show Ending.returned (Value.bool false) = _
    simp [h]
def stepF (s : ByteArray) : Int × Int × Bool :=
  if (Utf8.decode s 0).1 = 65533 ∧ Lib.hasPrefix s.data.toList [239, 191, 189] = false then (65533, 1, false) else (((Utf8.decode s 0).1 : Nat), (strOfRune ((Utf8.decode s 0).1 : Nat)).size, true)
def stepA (x : Int × Int × Bool) : Value := .agg #[.int .i32 x.1, .int .i64 x.2.1, .bool x.2.2]
set_option maxHeartbeats 8000000 in
set_option maxRecDepth 100000 in
theorem step_first.calls (s : ByteArray) (hs : 0 < s.size) (w : World) (hb : ∃ t fr, w.heap[0]? = some (.cells Glob.badC t fr)) :
    Calls Tryd.prog 35 #[.string s] w fun e w' => e = .returned (stepA (stepF s)) ∧ Below w.heap.size w w' := by
  obtain ⟨bt, bfr, hbad⟩ := hb
  have HB := Lib.hid hbad
  clear hbad
  have hrune := fun (n : Int) (w : World) => run_convert_rune (P := Tryd.prog) w 21 9 n Tryd.underlying21 Tryd.underlying9
  go_enter Tryd.func35, Tryd.ntmps35
  go_wp2
  go_loopw [4] (fun _ wr => wr.heap[w.heap.size + 1]? = some (.stringIter s 0) ∧ wr.heap[w.heap.size]? = some (.cells #[.int .i32 0, .int .i64 0, .bool false] 57 (0, 0)) ∧ Below w.heap.size w wr) (fun _ _ => 0)
  case atStart =>
    refine ⟨?_, ?_, (((Below.refl _ w).alloc (Nat.le_refl _) _).alloc (by simp) _)⟩
    · have := World.iter_heap (w.alloc (.cells #[.int .i32 0, .int .i64 0, .bool false] 57)) s 0
      simpa using this
    · exact (Below.heap_alloc _ _ _ (by simp)).trans (heap_alloc_new _ _)
  case round =>
    obtain ⟨hit, hres, hbw⟩ := hrel
    have hnx : ∀ ty, (Instr.next (.pointer (some ⟨w.heap.size + 1, 0, none⟩)) true ty).run Tryd.prog wr = _ := fun ty => Lib.run_next_any_at wr (w.heap.size + 1) s 0 ty hit hs
    have hbw2 := Lib.below_iterAt hbw (k := w.heap.size + 1) (by omega) s (0 + (Utf8.decode s 0).2)
    have hres2 := (Lib.iterAt_other wr (w.heap.size + 1) w.heap.size s (0 + (Utf8.decode s 0).2) (by omega)).trans hres
    obtain ⟨W2, hW2⟩ : ∃ W2, wr.iterAt (w.heap.size + 1) s (0 + (Utf8.decode s 0).2) = W2 := ⟨_, rfl⟩
    rw [hW2] at hbw2 hres2
    have hnx2 := fun ty => (hnx ty).trans (congrArg (Result.ok _) hW2)
    clear hnx hW2 hres hbw hit
    have HBad := (hbw2.block _ (Glob.lt_of_heap HB.out)).trans HB.out
    have hc0 : W2.cell? ⟨w.heap.size, 0, none⟩ = some (.int .i32 0) := by rw [cell_of_row _ _ _ _ _ _ hres2]; rfl
    have hc1 : W2.cell? ⟨w.heap.size, 1, none⟩ = some (.int .i64 0) := by rw [cell_of_row _ _ _ _ _ _ hres2]; rfl
    have hc2 : W2.cell? ⟨w.heap.size, 2, none⟩ = some (.bool false) := by rw [cell_of_row _ _ _ _ _ _ hres2]; rfl
    have hf : ∀ j, W2.frozen? ⟨w.heap.size, j, none⟩ = false := by intro j; simp [World.frozen?, hres2]
    have hg0 : W2.cell? ⟨0, 0, none⟩ = some (.int .i32 65533) := by rw [cell_of_row _ _ _ _ _ _ HBad]; rfl
    have hg1 : W2.cell? ⟨0, 1, none⟩ = some (.int .i64 1) := by rw [cell_of_row _ _ _ _ _ _ HBad]; rfl
    have hg2 : W2.cell? ⟨0, 2, none⟩ = some (.bool false) := by rw [cell_of_row _ _ _ _ _ _ HBad]; rfl
    by_cases hd : ((Utf8.decode s 0).1 : Int) = 65533
    · by_cases hp : Lib.hasPrefix s.data.toList [239, 191, 189] = true
      · go_wp2_with (go_at_call 43; refine (hasPrefix_calls _ _ _).mono ?_; rintro e w' ⟨rfl, rfl⟩)
        refine bodyPost_ret (results_cell_row rfl _ _ w.heap.size 57 #[.int .i32 65533, .int .i64 (strOfRune 65533).size, .bool true] (0, 0) _ rfl (by refine blk_put (cs := #[.int .i32 65533, .int .i64 (strOfRune 65533).size, .bool false]) ?_ 2 _ rfl; refine blk_put (cs := #[.int .i32 65533, .int .i64 0, .bool false]) ?_ 1 _ rfl; refine blk_put (cs := #[.int .i32 0, .int .i64 0, .bool false]) ?_ 0 _ rfl; exact hres2) Tryd.underlying57 rfl (by kernel_rfl)) rfl ?_
        exact ⟨by unfold stepF stepA; rw [if_neg (by rw [hp]; simp), hd], ((hbw2.setCell (p := ⟨w.heap.size, 0, none⟩) (Nat.le_refl _) _).setCell (p := ⟨w.heap.size, 1, none⟩) (Nat.le_refl _) _).setCell (p := ⟨w.heap.size, 2, none⟩) (Nat.le_refl _) _⟩
      · go_wp2_with (go_at_call 43; refine (hasPrefix_calls _ _ _).mono ?_; rintro e w' ⟨rfl, rfl⟩)
        refine bodyPost_ret (results_cell_row rfl _ _ w.heap.size 57 #[.int .i32 65533, .int .i64 1, .bool false] (0, 0) _ rfl (by refine blk_put (cs := #[.int .i32 65533, .int .i64 1, .bool false]) ?_ 2 _ rfl; refine blk_put (cs := #[.int .i32 65533, .int .i64 0, .bool false]) ?_ 1 _ rfl; refine blk_put (cs := #[.int .i32 0, .int .i64 0, .bool false]) ?_ 0 _ rfl; exact hres2) Tryd.underlying57 rfl (by kernel_rfl)) rfl ?_
        exact ⟨by unfold stepF; rw [if_pos ⟨by omega, by simpa using hp⟩]; rfl, ((hbw2.setCell (p := ⟨w.heap.size, 0, none⟩) (Nat.le_refl _) _).setCell (p := ⟨w.heap.size, 1, none⟩) (Nat.le_refl _) _).setCell (p := ⟨w.heap.size, 2, none⟩) (Nat.le_refl _) _⟩
    · go_wp2_with fail
      refine bodyPost_ret (results_cell_row rfl _ _ w.heap.size 57 #[.int .i32 ((Utf8.decode s 0).1 : Nat), .int .i64 (strOfRune ((Utf8.decode s 0).1 : Nat)).size, .bool true] (0, 0) _ rfl (by refine blk_put (cs := #[.int .i32 ((Utf8.decode s 0).1 : Nat), .int .i64 (strOfRune ((Utf8.decode s 0).1 : Nat)).size, .bool false]) ?_ 2 _ rfl; refine blk_put (cs := #[.int .i32 ((Utf8.decode s 0).1 : Nat), .int .i64 0, .bool false]) ?_ 1 _ rfl; refine blk_put (cs := #[.int .i32 0, .int .i64 0, .bool false]) ?_ 0 _ rfl; exact hres2) Tryd.underlying57 rfl (by kernel_rfl)) rfl ?_
      exact ⟨by unfold stepF; rw [if_neg (fun h => hd (by omega))]; rfl, ((hbw2.setCell (p := ⟨w.heap.size, 0, none⟩) (Nat.le_refl _) _).setCell (p := ⟨w.heap.size, 1, none⟩) (Nat.le_refl _) _).setCell (p := ⟨w.heap.size, 2, none⟩) (Nat.le_refl _) _⟩
end Go.Proofs.YtaojbcplmdjfnaaDoor.Pr

namespace Go.Proofs.YtaojbcplmdjfnaaDoor.Pr
open Go.RowKit Go.Shelf Go.Proofs.YtaojbcplmdjfnaaDoorW.PrintWords Go.Proofs.YtaojbcplmdjfnaaDoorW.PrintLast Go.Proofs.YtaojbcplmdjfnaaDoorW.PrintMore
set_option linter.unusedVariables false
set_option linter.unusedSimpArgs false
attribute [local go_sem] Oper.semAt_some
abbrev PStep := Nat × Int × Int × Bool
def encP (x : PStep) : Array Value := #[.int .i64 (x.1 : Int), stepA x.2]
def stepsN (s : ByteArray) : Nat → Nat → List PStep
  | 0, _ => []
  | f + 1, pos => if pos < s.size then (pos, stepF (s.extract pos s.size)) :: stepsN s f (pos + (Utf8.decode s pos).2) else []
def KpS (B g : Nat) (W W' : World) : Prop := (W'.heap[B]? = W.heap[B]? ∧ W'.heap[g]? = W.heap[g]?) ∧ KeepsWalks W W'
theorem KpS.t {B g : Nat} {A C D : World} (h : KpS B g A C) (k : KpS B g C D) : KpS B g A D := ⟨⟨k.1.1.trans h.1.1, k.1.2.trans h.1.2⟩, h.2.trans k.2⟩
theorem KpS.b {B g n : Nat} (hB : B < n) (hg : g < n) (W : World) (l : Nat) (o o' : Obj) (hl : n ≤ l) (h : W.heap[l]? = some o) (_ : o.isCells = false) (hw : o.isWalk = false) : KpS B g W (W.putObj l o') :=
  ⟨⟨World.putObj_heap_other (by omega), World.putObj_heap_other (by omega)⟩, KeepsWalks.putObj _ h hw⟩
theorem grown_iterAt {W : World} {k : Nat} (s : ByteArray) (pos : Nat) : W.grownBy (W.iterAt k s pos) (some k) :=
  ⟨rfl, rfl, rfl, by rw [Lib.iterAt_size]; exact Nat.le_refl _, fun i _ hne => Lib.iterAt_other _ _ _ _ _ (fun e => hne (by rw [e]))⟩
theorem grown_below {W W' : World} (h : Below W.heap.size W W') : W.grownBy W' none := ⟨h.os, h.tape, h.output, h.size, fun k hk _ => h.block k hk⟩
theorem width_pos (s : ByteArray) (pos : Nat) : 1 ≤ (Utf8.decode s pos).2 := by
  simp only [Utf8.decode]
  (repeat' split) <;> simp
set_option maxRecDepth 100000 in
set_option maxHeartbeats 8000000 in
theorem all_stops (n : Nat) (hn : 1 ≤ n) (B : Nat) (s : ByteArray) (w : World) (hB : w.heap[B]? = some (.cells #[.string s] 9 (0, 0))) (hb : ∃ t fr, w.heap[0]? = some (.cells Glob.badC t fr)) :
    SeqStopsK Fence.wide n Tryd.prog 34 #[.pointer (some ⟨B, 0, none⟩)] encP (KpS B 0) (fun xs => xs = stepsN s s.size 0) (fun pre => pre <+: stepsN s s.size 0) (stepsN s s.size 0).length w := by
  intro l J Jx W hW hJ hJx hY h0
  have hBw : B < w.heap.size := Glob.lt_of_heap hB
  have hBW : W.heap[B]? = some (.cells #[.string s] 9 (0, 0)) := (hW.block _ hBw).trans hB
  obtain ⟨bt, bfr, hbad0⟩ := hb
  have hbadlt : 0 < w.heap.size := Glob.lt_of_heap hbad0
  have hbadW : W.heap[0]? = some (.cells Glob.badC bt bfr) := (hW.block _ hbadlt).trans hbad0
  have hBW' : B < W.heap.size := Glob.lt_of_heap hBW
  have hgW' : 0 < W.heap.size := Glob.lt_of_heap hbadW
  have hcs : W.cell? ⟨B, 0, none⟩ = some (.string s) := by rw [cell_of_row _ _ _ _ _ _ hBW]; rfl
  refine callsIn_of_wp Tryd.func34 rfl trivial ?_ rfl
  simp only [Tryd.ntmps34, List.size_toArray, List.length_cons, List.length_nil, Nat.reduceAdd, Nat.reduceSub, Array.replicate_succ, Array.replicate_zero, List.push_toArray, List.append_toArray, List.nil_append, List.cons_append]
  gi_wp2
  gi_loopw [3] (fun _ wr => ∃ (pre : List PStep) (pos fuel : Nat), pre ++ stepsN s fuel pos = stepsN s s.size 0 ∧ s.size ≤ pos + fuel ∧ wr.heap[W.heap.size]? = some (.stringIter s pos) ∧ wr.heap[B]? = some (.cells #[.string s] 9 (0, 0)) ∧ wr.heap[0]? = some (.cells Glob.badC bt bfr) ∧ J pre wr)
    (fun _ wr => s.size - wr.iterPos W.heap.size)
  case atStart =>
    refine ⟨[], 0, s.size, rfl, by omega, World.iter_heap W s 0, (Below.heap_alloc _ _ _ hBW').trans hBW, (Below.heap_alloc _ _ _ hgW').trans hbadW, hJ _ _ _ none h0 (World.grownBy_alloc W _ none) (by simp)⟩
  case round =>
    obtain ⟨pre, pos, fuel, hsum, hfu, hit, hBr, hbr, hJr⟩ := hrel
    by_cases hp : pos < s.size
    · obtain ⟨f, rfl⟩ : ∃ f, fuel = f + 1 := ⟨fuel - 1, by omega⟩
      have hsum2 : pre ++ (pos, stepF (s.extract pos s.size)) :: stepsN s f (pos + (Utf8.decode s pos).2) = stepsN s s.size 0 := by rw [← hsum, stepsN, if_pos hp]
      have hlen : pre.length < (stepsN s s.size 0).length := by rw [← hsum2]; simp
      have hnx : ∀ ty, (Instr.next (.pointer (some ⟨W.heap.size, 0, none⟩)) true ty).run Tryd.prog wr = _ := fun ty => Lib.run_next_any_at wr W.heap.size s pos ty hit hp
      have hwd := width_pos s pos
      have hit2 := Lib.iterAt_heap wr W.heap.size s pos (pos + (Utf8.decode s pos).2) hit
      have hB2 := (Lib.iterAt_other wr W.heap.size B s (pos + (Utf8.decode s pos).2) (by omega)).trans hBr
      have hb2 := (Lib.iterAt_other wr W.heap.size 0 s (pos + (Utf8.decode s pos).2) (by omega)).trans hbr
      have hJ2 := hJ _ _ _ (some W.heap.size) hJr (grown_iterAt s (pos + (Utf8.decode s pos).2)) (fun r e => by cases e; exact ⟨Nat.le_refl _, _, hit, rfl⟩)
      obtain ⟨W2, hW2⟩ : ∃ W2, wr.iterAt W.heap.size s (pos + (Utf8.decode s pos).2) = W2 := ⟨_, rfl⟩
      rw [hW2] at hit2 hB2 hb2 hJ2
      have hnx2 := fun ty => (hnx ty).trans (congrArg (Result.ok _) hW2)
      clear hnx hW2 hBr hbr hJr
      have hcs2 : W2.cell? ⟨B, 0, none⟩ = some (.string s) := by rw [cell_of_row _ _ _ _ _ _ hB2]; rfl
      have hsz : 0 < (s.extract pos s.size).size := by rw [ByteArray.size_extract]; omega
      gi_wp2_with (refine ⟨trivial, ?_⟩; gi_at_call 35; refine (callsIn_wide.2 (step_first.calls (s.extract pos s.size) hsz W2 ⟨_, _, hb2⟩)).mono ?_; rintro e W3 ⟨rfl, hb3⟩; obtain ⟨fn, tmps, assign, body, hy, hR⟩ := hY pre (pos, stepF (s.extract pos s.size)) W3 (hJ _ _ _ none hJ2 (grown_below hb3) (by simp)) hlen; dsimp only [encP] at hy)
      have hit3 := (hb3.block _ (Glob.lt_of_heap hit2)).trans hit2
      have hB3 := (hb3.block _ (Glob.lt_of_heap hB2)).trans hB2
      have hg3 := (hb3.block _ (Glob.lt_of_heap hb2)).trans hb2
      refine hR.mono ?_
      rintro e W4 (⟨rfl, hJ4, hk4⟩ | ⟨rfl, hJx4⟩)
      · have hit4 := hk4.2.same _ _ hit3 rfl
        gi_wp2
        go_roundw
        case rel => exact ⟨pre ++ [(pos, stepF (s.extract pos s.size))], pos + (Utf8.decode s pos).2, f, by rw [List.append_assoc]; exact hsum2, by omega, hit4, hk4.1.1.trans hB3, hk4.1.2.trans hg3, hJ4⟩
        case measure => simp only [World.iterPos, hit4, hit]; omega
      · gi_wp2
        refine bodyPost_ret (results_none rfl _ _ _) rfl ?_
        exact ⟨⟨_, rfl⟩, .inr ⟨_, ⟨stepsN s f (pos + (Utf8.decode s pos).2), by rw [List.append_assoc]; exact hsum2⟩, hJx4⟩⟩
    · have hnil : stepsN s fuel pos = [] := by cases fuel with | zero => rfl | succ f => rw [stepsN, if_neg hp]
      rw [hnil, List.append_nil] at hsum
      have hnx : ∀ ty, (Instr.next (.pointer (some ⟨W.heap.size, 0, none⟩)) true ty).run Tryd.prog wr = _ := fun ty => Lib.run_next_end_at wr W.heap.size s pos ty hit hp
      gi_wp2
      go_end0
      exact ⟨⟨_, rfl⟩, .inl ⟨_, hsum, hJr⟩⟩
end Go.Proofs.YtaojbcplmdjfnaaDoor.Pr

namespace Go.Proofs.YtaojbcplmdjfnaaDoor.Pr
open Go.RowKit Go.Shelf Go.Proofs.YtaojbcplmdjfnaaDoorW.PrintWords Go.Proofs.YtaojbcplmdjfnaaDoorW.PrintLast Go.Proofs.YtaojbcplmdjfnaaDoorW.PrintMore
set_option linter.unusedVariables false
set_option linter.unusedSimpArgs false
attribute [local go_sem] Oper.semAt_some
def unitsN (r : Int) : Int := if r > 65535 then 2 else 1
def szStep (z : Int × Int × Int × Int) (x : PStep) : Int × Int × Int × Int :=
  (wrap64 (z.1 + 1), wrap64 (z.2.1 + unitsN x.2.1), if x.2.1 = 13 ∨ (x.2.1 = 10 ∧ z.2.2.2 ≠ 13) then wrap64 (z.2.2.1 + 1) else z.2.2.1, x.2.1)
def szAll (l : List PStep) : Int × Int × Int × Int := l.foldl szStep (0, 0, 0, 0)
theorem szAll_snoc (pre : List PStep) (x : PStep) : szAll (pre ++ [x]) = szStep (szAll pre) x := by simp [szAll]
def weld_Sizes.f (l0 : List Int) : Option (Int × Int × Int × Int) :=
  some ((l0.length : Int), (szAll (stepsN (strOfNums l0) (strOfNums l0).size 0)).1, (szAll (stepsN (strOfNums l0) (strOfNums l0).size 0)).2.1, (szAll (stepsN (strOfNums l0) (strOfNums l0).size 0)).2.2.1)
def zC : Array Value := #[.int .i64 0, .int .i64 0, .int .i64 0, .int .i64 0]
def sC (l0 : List Int) (z : Int × Int × Int × Int) : Array Value := #[.int .i64 (l0.length : Int), .int .i64 z.1, .int .i64 z.2.1, .int .i64 z.2.2.1]
theorem blk_own {β : Type} (B : Nat) (t : TypeId) (f : β → Array Value) : Own (fun s W => W.heap[B]? = some (.cells (f s) t (0, 0))) := fun s X Y row hs hg hrow =>
  blk_grown hs hg (fun e' => by obtain ⟨o, ho, hc⟩ := hrow B e'.symm; rw [hs] at ho; cases ho; cases hc)
theorem to_cells {W : World} {k : Nat} {o o' : Obj} (h : W.heap[k]? = some o) (e : o = o') : W.heap[k]? = some o' := e ▸ h
theorem far_ne1 {n : Nat} (j : Nat) : n + 1 ≠ (⟨n + 1 + 1, j, none⟩ : Addr).block := by show n + 1 ≠ n + 1 + 1; omega
theorem far_ne2 {n : Nat} (j : Nat) : n + 1 + 1 ≠ (⟨n + 1, j, none⟩ : Addr).block := by show n + 1 + 1 ≠ n + 1; omega
def Turns (n : Nat) (W W' : World) : Prop := KeepsOthers W W' ∧ Below (n + 1) W W' ∧ W'.heap[n + 1 + 1 + 1]? = W.heap[n + 1 + 1 + 1]? ∧ W'.heap.size = W.heap.size
theorem Turns.refl (n : Nat) (W : World) : Turns n W W := ⟨KeepsOthers.refl _, Below.refl _ _, rfl, rfl⟩
theorem Turns.drew {n : Nat} {W W' : World} (h : Turns n W W') : Turns n W W'.drew := ⟨h.1.trans (KeepsOthers.drew _), h.2.1.drew, h.2.2⟩
theorem Turns.set1 {n : Nat} {W W' : World} (h : Turns n W W') (j : Nat) (v : Value) : Turns n W (W'.setCell ⟨n + 1, j, none⟩ v) :=
  ⟨h.1.trans (KeepsOthers.setCell _ _ _), h.2.1.setCell (p := ⟨n + 1, j, none⟩) (Nat.le_refl _) _, (Below.heap_setCell W' ⟨n + 1, j, none⟩ v _ (by show n + 1 + 1 + 1 ≠ n + 1; omega)).trans h.2.2.1, by rw [← h.2.2.2]; simp [World.setCell]⟩
theorem Turns.set2 {n : Nat} {W W' : World} (h : Turns n W W') (j : Nat) (v : Value) : Turns n W (W'.setCell ⟨n + 1 + 1, j, none⟩ v) :=
  ⟨h.1.trans (KeepsOthers.setCell _ _ _), h.2.1.setCell (p := ⟨n + 1 + 1, j, none⟩) (Nat.le_succ _) _, (Below.heap_setCell W' ⟨n + 1 + 1, j, none⟩ v _ (by show n + 1 + 1 + 1 ≠ n + 1 + 1; omega)).trans h.2.2.1, by rw [← h.2.2.2]; simp [World.setCell]⟩
def SzI (w : World) (l0 : List Int) (pre : List PStep) (W : World) : Prop := (((W.heap[w.heap.size + 1]? = some (.cells (sC l0 (szAll pre)) 24 (0, 0)) ∧ W.heap[w.heap.size + 1 + 1]? = some (.cells #[.int .i32 (szAll pre).2.2.2] 21 (0, 0))) ∧ W.heap[w.heap.size]? = some (.cells zC 24 (0, 0))) ∧ Below w.heap.size w W) ∧ w.heap.size + 4 ≤ W.heap.size
theorem SzI_own (w : World) (l0 : List Int) (B : Nat) (h : w.heap.size ≤ B) : OwnFrom B (SzI w l0) :=
  OwnFrom.and (OwnFrom.and (OwnFrom.and (OwnFrom.and (Own.from (blk_own _ _ _) _) (Own.from (blk_own _ _ (fun pre => #[Value.int .i32 (szAll pre).2.2.2])) _)) (Own.from (blk_own _ _ (fun _ => zC)) _)) (ownFrom_below (Nat.le_refl _) h)) (fun _ _ _ _ hs hg _ => Nat.le_trans hs hg.size)
theorem round_end {w W W' : World} {B : Nat} {l0 : List Int} {pre : List PStep} {x : PStep} {a : Act} {g : Nat} (hg : g < w.heap.size) (hI : SzI w l0 pre W) (hT : Turns w.heap.size W W')
    (q1 : W'.heap[w.heap.size + 1]? = some (.cells (sC l0 (szAll (pre ++ [x]))) 24 (0, 0))) (q2 : W'.heap[w.heap.size + 1 + 1]? = some (.cells #[.int .i32 (szAll (pre ++ [x])).2.2.2] 21 (0, 0))) :
    ownPostG B (KpS (w.heap.size + 1 + 1 + 1) g) (SzI w l0) (fun _ _ _ => False) (pre ++ [x]) W .normal a W' := by
  obtain ⟨⟨⟨⟨c1, c2⟩, c0⟩, hB1⟩, hsW⟩ := hI
  exact ⟨hT.1.from _, ⟨⟨hT.2.2.1, hT.2.1.block _ (by omega)⟩, hT.1.walks⟩, ⟨⟨⟨⟨q1, q2⟩, (hT.2.1.block _ (Nat.lt_succ_self _)).trans c0⟩, hB1.trans (hT.2.1.mono (Nat.le_succ _))⟩, by rw [hT.2.2.2]; exact hsW⟩⟩
theorem round_endA {w W : World} {B : Nat} {l0 : List Int} {pre : List PStep} {x : PStep} {a : Act} {g : Nat} (hg : g < w.heap.size) (hI : SzI w l0 pre W) {a1 a2 a3 a4 : Int}
    (e1 : a1 = (szAll (pre ++ [x])).1) (e2 : a2 = (szAll (pre ++ [x])).2.1) (e3 : a3 = (szAll (pre ++ [x])).2.2.1) (e4 : a4 = (szAll (pre ++ [x])).2.2.2) :
    ownPostG B (KpS (w.heap.size + 1 + 1 + 1) g) (SzI w l0) (fun _ _ _ => False) (pre ++ [x]) W .normal a
      ((((W.setCell ⟨w.heap.size + 1, 1, none⟩ (.int .i64 a1)).setCell ⟨w.heap.size + 1, 2, none⟩ (.int .i64 a2)).setCell ⟨w.heap.size + 1, 3, none⟩ (.int .i64 a3)).setCell ⟨w.heap.size + 1 + 1, 0, none⟩ (.int .i32 a4)).drew := by
  have hI' := hI
  obtain ⟨⟨⟨⟨c1, c2⟩, c0⟩, hB1⟩, hsW⟩ := hI'
  refine round_end hg hI (Turns.drew (Turns.set2 (Turns.set1 (Turns.set1 (Turns.set1 (Turns.refl _ _) _ _) _ _) _ _) _ _)) ?_ ?_
  · refine blk_drew (blk_far (to_cells (blk_set (blk_set (blk_set c1 _ _) _ _) _ _) ?_) (far_ne1 _) _)
    subst e1 e2 e3
    rfl
  · refine blk_drew (to_cells (blk_set (blk_far (blk_far (blk_far c2 (far_ne2 _) _) (far_ne2 _) _) (far_ne2 _) _) _ _) ?_)
    subst e4
    rfl
theorem round_endB {w W : World} {B : Nat} {l0 : List Int} {pre : List PStep} {x : PStep} {a : Act} {g : Nat} (hg : g < w.heap.size) (hI : SzI w l0 pre W) {a1 a2 a4 : Int}
    (e1 : a1 = (szAll (pre ++ [x])).1) (e2 : a2 = (szAll (pre ++ [x])).2.1) (e3 : (szAll pre).2.2.1 = (szAll (pre ++ [x])).2.2.1) (e4 : a4 = (szAll (pre ++ [x])).2.2.2) :
    ownPostG B (KpS (w.heap.size + 1 + 1 + 1) g) (SzI w l0) (fun _ _ _ => False) (pre ++ [x]) W .normal a
      (((W.setCell ⟨w.heap.size + 1, 1, none⟩ (.int .i64 a1)).setCell ⟨w.heap.size + 1, 2, none⟩ (.int .i64 a2)).setCell ⟨w.heap.size + 1 + 1, 0, none⟩ (.int .i32 a4)).drew := by
  have hI' := hI
  obtain ⟨⟨⟨⟨c1, c2⟩, c0⟩, hB1⟩, hsW⟩ := hI'
  refine round_end hg hI (Turns.drew (Turns.set2 (Turns.set1 (Turns.set1 (Turns.refl _ _) _ _) _ _) _ _)) ?_ ?_
  · refine blk_drew (blk_far (to_cells (blk_set (blk_set c1 _ _) _ _) ?_) (far_ne1 _) _)
    unfold sC
    rw [← e1, ← e2, ← e3]
    rfl
  · refine blk_drew (to_cells (blk_set (blk_far (blk_far c2 (far_ne2 _) _) (far_ne2 _) _) _ _) ?_)
    subst e4
    rfl
set_option maxRecDepth 100000 in
set_option maxHeartbeats 8000000 in
theorem units_still (r : Int) (w : World) : Calls Tryd.prog 26 #[.int .i32 r] w fun e w' => e = .returned (.int .i64 (unitsN r)) ∧ w' = w := by
  unfold unitsN
  by_cases h : r > 65535
  · rw [if_pos h]
    go_enter Tryd.func26, Tryd.ntmps26
    go_wp2
    go_ret
    exact ⟨rfl, rfl⟩
  · rw [if_neg h]
    go_enter Tryd.func26, Tryd.ntmps26
    go_wp2
    go_ret
    exact ⟨rfl, rfl⟩
set_option maxRecDepth 100000 in
set_option maxHeartbeats 8000000 in
theorem step_All.calls (A0 : Option Addr) (c0 : Nat) (l0 : List Int) (w : World) (hr0 : Kd.C (Kd.int .u8) w A0 l0.length l0) :
    Calls Tryd.prog 25 #[.slice A0 l0.length c0] w fun e w' => e = .returned (.func (.func 34) #[] #[.pointer (some ⟨w.heap.size, 0, none⟩)]) ∧ w' = w.alloc (.cells #[.string (strOfNums l0)] 9 (0, 0)) := by
  have hcv := Kd.C_string (P := Tryd.prog) (A := A0) (c := c0) Tryd.underlying29 Tryd.underlying5 Tryd.underlying9 hr0
  go_enter Tryd.func25, Tryd.ntmps25
  go_wp2
  go_ret
  exact ⟨rfl, rfl⟩
end Go.Proofs.YtaojbcplmdjfnaaDoor.Pr

namespace Go.Proofs.YtaojbcplmdjfnaaDoor.Pr
open Go.RowKit Go.Shelf Go.Proofs.YtaojbcplmdjfnaaDoorW.PrintWords Go.Proofs.YtaojbcplmdjfnaaDoorW.PrintLast Go.Proofs.YtaojbcplmdjfnaaDoorW.PrintMore
set_option linter.unusedVariables false
set_option linter.unusedSimpArgs false
attribute [local go_sem] Oper.semAt_some
set_option maxRecDepth 100000 in
set_option maxHeartbeats 16000000 in
theorem weld_Sizes.calls (A0 : Option Addr) (c0 : Nat) (l0 : List Int) (r1 r2 r3 r4 : Int) (w : World) (hG : Glob.Globs w) (hr0 : Kd.C (Kd.int .u8) w A0 l0.length l0) (hc0 : l0.length ≤ c0) (h : weld_Sizes.f l0 = some (r1, r2, r3, r4)) :
    Calls Tryd.prog 13 #[.slice A0 l0.length c0] w fun e w' => e = .returned (.agg #[.int .i64 r1, .int .i64 r2, .int .i64 r3, .int .i64 r4]) ∧ Below w.heap.size w w' := by
  obtain ⟨bt, bfr, hbad⟩ := hG.bad
  have HBad := Lib.hid hbad
  have HR := Lib.hid hr0
  have HH := Lib.hid h
  have HC := Lib.hid hc0
  clear hG hbad hr0 h hc0
  refine (callsIn_wide (n := 3)).1 ?_
  refine callsIn_of_wp_marks Tryd.func13 rfl trivial ?_ rfl
  simp only [Tryd.ntmps13, List.size_toArray, List.length_cons, List.length_nil, Nat.reduceAdd, Nat.reduceSub, Array.replicate_succ, Array.replicate_zero, List.push_toArray, List.append_toArray, List.nil_append, List.cons_append]
  gi_wp2_with (refine ⟨trivial, ?_⟩; gi_at_call 25; refine (callsIn_wide.2 (step_All.calls A0 c0 l0 _ (Kd.C_below HR.out ((((Below.refl _ w).alloc (Nat.le_refl _) _).alloc (by simp) _).alloc (by simp; omega) _)))).mono ?_; rintro e w' ⟨rfl, rfl⟩)
  have hB0 := ((((Below.refl _ w).alloc (Nat.le_refl _) (.cells zC 24)).alloc (by simp) (.cells (sC l0 (0, 0, 0, 0)) 24)).alloc (by simp; omega) (.cells #[.int .i32 0] 21)).alloc (by simp; omega) (.cells #[.string (strOfNums l0)] 9)
  have b0 := blk_alloc (blk_alloc (blk_alloc (blk_new w (.cells zC 24)) (.cells (sC l0 (0, 0, 0, 0)) 24)) (.cells #[.int .i32 0] 21)) (.cells #[.string (strOfNums l0)] 9)
  have b1 := blk_alloc (blk_alloc (blk_new (w.alloc (.cells zC 24)) (.cells (sC l0 (0, 0, 0, 0)) 24)) (.cells #[.int .i32 0] 21)) (.cells #[.string (strOfNums l0)] 9)
  have b2 := blk_alloc (blk_new ((w.alloc (.cells zC 24)).alloc (.cells (sC l0 (0, 0, 0, 0)) 24)) (.cells #[.int .i32 0] 21)) (.cells #[.string (strOfNums l0)] 9)
  have b3 := blk_new (((w.alloc (.cells zC 24)).alloc (.cells (sC l0 (0, 0, 0, 0)) 24)).alloc (.cells #[.int .i32 0] 21)) (.cells #[.string (strOfNums l0)] 9)
  have hsz : ((((w.alloc (.cells zC 24)).alloc (.cells (sC l0 (0, 0, 0, 0)) 24)).alloc (.cells #[.int .i32 0] 21)).alloc (.cells #[.string (strOfNums l0)] 9)).heap.size = w.heap.size + 4 := by simp
  simp only [World.size_alloc] at b1 b2 b3
  obtain ⟨W0, hW0⟩ : ∃ W0, (((w.alloc (.cells zC 24)).alloc (.cells (sC l0 (0, 0, 0, 0)) 24)).alloc (.cells #[.int .i32 0] 21)).alloc (.cells #[.string (strOfNums l0)] 9) = W0 := ⟨_, rfl⟩
  have hgl : 0 < w.heap.size := Glob.lt_of_heap HBad.out
  rw [hW0] at hB0 b0 b1 b2 b3 hsz
  change Code.wpIn _ _ _ _ _ _ ((((w.alloc (.cells zC 24)).alloc (.cells (sC l0 (0, 0, 0, 0)) 24)).alloc (.cells #[.int .i32 0] 21)).alloc (.cells #[.string (strOfNums l0)] 9))
  rw [hW0]
  clear hW0
  refine wpIn_rangeFunc_ownH (n := 3) rfl (by decide) (gf := 34) (lb := #[.pointer (some ⟨w.heap.size + 1 + 1 + 1, 0, none⟩)]) rfl trivial (enters_of Tryd.func34 (by kernel_rfl) rfl)
    (all_stops 2 (by decide) (w.heap.size + 1 + 1 + 1) (strOfNums l0) W0 b3 ⟨_, _, (hB0.block _ hgl).trans HBad.out⟩) (fun h k => h.t k) (KpS.b (by omega) (by omega)) (Below.refl _ _) (fun _ => rfl)
    (SzI w l0)
    (fun _ _ _ => False)
    (SzI_own w l0 W0.heap.size (by omega))
    (fun _ _ _ _ _ hs _ _ => hs)
    ⟨⟨⟨⟨b1, b2⟩, b0⟩, hB0⟩, by omega⟩
    (fun x a' W => ∃ Bx, w.heap.size + 1 + 1 + 1 < Bx ∧ W.heap[Bx]? = some (.cells #[.int .i32 x.2.1, .int .i64 x.2.2.1, .bool x.2.2.2] 57 (0, 0)) ∧ a' = { tmps := #[.slice A0 l0.length c0, undef, .pointer (some ⟨w.heap.size, 0, none⟩), .pointer (some ⟨w.heap.size + 1, 0, none⟩), .pointer (some ⟨w.heap.size + 1 + 1, 0, none⟩), undef, .pointer (some ⟨Bx, 0, none⟩), .slice A0 l0.length c0, .int .i64 (l0.length : Int), .agg #[.int .i64 (l0.length : Int), .int .i64 0, .int .i64 0, .int .i64 0], .slice A0 l0.length c0, .func (.func 34) #[] #[.pointer (some ⟨w.heap.size + 1 + 1 + 1, 0, none⟩)], .int .i64 (x.1 : Int), stepA x.2, undef, undef, undef, undef, undef, undef, undef, undef, undef, undef, undef, undef, undef, undef, undef, undef, undef, undef, undef, undef, undef, undef, undef, undef, undef, undef, undef, undef, undef, undef], defers := [] })
    (fun x a' _ X Y row hs hg hr => by obtain ⟨Bx, e1, e2, e3⟩ := hs; exact ⟨Bx, e1, blk_own Bx 57 (fun (_ : Unit) => #[Value.int .i32 x.2.1, .int .i64 x.2.2.1, .bool x.2.2.2]) () X Y row e2 hg (fun r e => (hr r e).2), e3⟩)
    ?assign ?body ?done ?stop
  case assign =>
    rintro l pre x W K ⟨⟨⟨⟨c1, c2⟩, c0'⟩, hB1⟩, hsW⟩ hK
    dsimp only [encP, stepA]
    gi_wp2
    refine hK _ _ ((KeepsOthers.alloc _ _).from _) ⟨⟨Below.heap_alloc _ _ _ (by omega), Below.heap_alloc _ _ _ (by omega)⟩, KeepsWalks.alloc _ _⟩ ⟨⟨⟨⟨blk_alloc c1 _, blk_alloc c2 _⟩, blk_alloc c0' _⟩, hB1.alloc hB1.size _⟩, by simp; omega⟩ ⟨W.heap.size, by omega, blk_new W _, rfl⟩
  case body =>
    rintro l pre x a' W hl ⟨r, hr⟩ ⟨⟨⟨⟨c1, c2⟩, c0'⟩, hB1⟩, hsW⟩ ⟨Bx, hBx, bX, rfl⟩ hlt
    have hI : SzI w l0 pre W := ⟨⟨⟨⟨c1, c2⟩, c0'⟩, hB1⟩, hsW⟩
    have hmx : Tryd.prog.follows .mixedOrders = true := by kernel_rfl
    have s1 : W.cell? ⟨w.heap.size + 1, 1, none⟩ = some (.int .i64 (szAll pre).1) := by rw [cell_of_row _ _ _ _ _ _ c1]; rfl
    have s2 : W.cell? ⟨w.heap.size + 1, 2, none⟩ = some (.int .i64 (szAll pre).2.1) := by rw [cell_of_row _ _ _ _ _ _ c1]; rfl
    have s3 : W.cell? ⟨w.heap.size + 1, 3, none⟩ = some (.int .i64 (szAll pre).2.2.1) := by rw [cell_of_row _ _ _ _ _ _ c1]; rfl
    have sl : W.cell? ⟨w.heap.size + 1 + 1, 0, none⟩ = some (.int .i32 (szAll pre).2.2.2) := by rw [cell_of_row _ _ _ _ _ _ c2]; rfl
    have x0 : W.cell? ⟨Bx, 0, none⟩ = some (.int .i32 x.2.1) := by rw [cell_of_row _ _ _ _ _ _ bX]; rfl
    have f1 : ∀ j, W.frozen? ⟨w.heap.size + 1, j, none⟩ = false := fun j => blk_frozen c1 j
    have f2 : ∀ j, W.frozen? ⟨w.heap.size + 1 + 1, j, none⟩ = false := fun j => blk_frozen c2 j
    have n1 : Bx ≠ w.heap.size + 1 := by omega
    have n2 : Bx ≠ w.heap.size + 1 + 1 := by omega
    have hc : x.2.1 = 13 ∨ (x.2.1 ≠ 13 ∧ x.2.1 = 10 ∧ (szAll pre).2.2.2 = 13) ∨ (x.2.1 ≠ 13 ∧ x.2.1 = 10 ∧ (szAll pre).2.2.2 ≠ 13) ∨ (x.2.1 ≠ 13 ∧ x.2.1 ≠ 10) := by omega
    rcases hc with h13 | ⟨h13, h10, hl13⟩ | ⟨h13, h10, hl13⟩ | ⟨h13, h10⟩
    all_goals gi_wp2
    all_goals gi_region_with_o (refine ⟨trivial, ?_⟩; gi_at_call 26; refine (CallsIn.inRound l (callsIn_wide.2 (units_still _ _))).mono ?_; rintro e w' ⟨rfl, rfl⟩)
    all_goals gi_wp2
    all_goals (try go_bits)
    all_goals first
      | (with_reducible refine round_endA hgl hI ?_ ?_ ?_ ?_)
      | (with_reducible refine round_endB hgl hI ?_ ?_ ?_ ?_)
    all_goals (rw [szAll_snoc])
    all_goals (dsimp only [szStep])
    all_goals first
      | rfl
      | (split <;> first | rfl | (exfalso; omega))
      | omega
      | rw [h13]
      | rw [h10]
  case done =>
    rintro D ys W hD rfl ⟨⟨⟨⟨c1, c2⟩, c0'⟩, hB1⟩, hsW⟩ hK
    obtain ⟨z, hz⟩ : ∃ z, szAll (stepsN (strOfNums l0) (strOfNums l0).size 0) = z := ⟨_, rfl⟩
    have hf := HH.out
    unfold weld_Sizes.f at hf
    rw [hz] at hf c1 c2
    simp only [Option.some.injEq, Prod.mk.injEq] at hf
    obtain ⟨rfl, rfl, rfl, rfl⟩ := hf
    have s0 : W.cell? ⟨w.heap.size + 1, 0, none⟩ = some (.int .i64 (l0.length : Int)) := by rw [cell_of_row _ _ _ _ _ _ c1]; rfl
    have s1 : W.cell? ⟨w.heap.size + 1, 1, none⟩ = some (.int .i64 z.1) := by rw [cell_of_row _ _ _ _ _ _ c1]; rfl
    have s2 : W.cell? ⟨w.heap.size + 1, 2, none⟩ = some (.int .i64 z.2.1) := by rw [cell_of_row _ _ _ _ _ _ c1]; rfl
    have s3 : W.cell? ⟨w.heap.size + 1, 3, none⟩ = some (.int .i64 z.2.2.1) := by rw [cell_of_row _ _ _ _ _ _ c1]; rfl
    have z0 : W.cell? ⟨w.heap.size, 0, none⟩ = some (.int .i64 0) := by rw [cell_of_row _ _ _ _ _ _ c0']; rfl
    have z1 : W.cell? ⟨w.heap.size, 1, none⟩ = some (.int .i64 0) := by rw [cell_of_row _ _ _ _ _ _ c0']; rfl
    have z2 : W.cell? ⟨w.heap.size, 2, none⟩ = some (.int .i64 0) := by rw [cell_of_row _ _ _ _ _ _ c0']; rfl
    have z3 : W.cell? ⟨w.heap.size, 3, none⟩ = some (.int .i64 0) := by rw [cell_of_row _ _ _ _ _ _ c0']; rfl
    have fz : ∀ j, W.frozen? ⟨w.heap.size, j, none⟩ = false := fun j => blk_frozen c0' j
    gi_wp2
    have hK1 := ((((KeepsOthers.setCell W ⟨w.heap.size, 0, none⟩ (.int .i64 (l0.length : Int))).trans (KeepsOthers.setCell _ ⟨w.heap.size, 1, none⟩ (.int .i64 z.1))).trans (KeepsOthers.setCell _ ⟨w.heap.size, 2, none⟩ (.int .i64 z.2.1))).trans (KeepsOthers.setCell _ ⟨w.heap.size, 3, none⟩ (.int .i64 z.2.2.1))).same D _ hK rfl
    have hr := blk_set (blk_set (blk_set (blk_set c0' 0 (.int .i64 (l0.length : Int))) 1 (.int .i64 z.1)) 2 (.int .i64 z.2.1)) 3 (.int .i64 z.2.2.1)
    have hb4 := (((hB1.setCell (p := ⟨w.heap.size, 0, none⟩) (Nat.le_refl _) (.int .i64 (l0.length : Int))).setCell (p := ⟨w.heap.size, 1, none⟩) (Nat.le_refl _) (.int .i64 z.1)).setCell (p := ⟨w.heap.size, 2, none⟩) (Nat.le_refl _) (.int .i64 z.2.1)).setCell (p := ⟨w.heap.size, 3, none⟩) (Nat.le_refl _) (.int .i64 z.2.2.1)
    refine ⟨by simp, .inl ⟨_, _, rfl, run_takeDeferred hK1, ?_⟩⟩
    exact ⟨_, results_cell_row rfl _ _ w.heap.size 24 #[.int .i64 (l0.length : Int), .int .i64 z.1, .int .i64 z.2.1, .int .i64 z.2.2.1] (0, 0) _ rfl ((World.putObj_heap_other (by omega)).trans hr) Tryd.underlying24 rfl (by kernel_rfl), rfl, hb4.trans (belowK_b (w := w) (Nat.le_refl _) _ D _ _ (by omega) hK1 rfl rfl)⟩
  case stop =>
    rintro D c pre W _ _ h _
    exact h.elim
end Go.Proofs.YtaojbcplmdjfnaaDoor.Pr

namespace Go.Proofs.YtaojbcplmdjfnaaDoor.Pr
open Go.RowKit Go.Proofs.YtaojbcplmdjfnaaDoorW.PrintWords Go.Proofs.YtaojbcplmdjfnaaDoorW.PrintLast Go.Proofs.YtaojbcplmdjfnaaDoorW.PrintMore
attribute [local go_sem] max2_int min2_int max_two min_two max_three min_three max_four min_four   -- for this text's walks alone
set_option linter.unusedVariables false
set_option linter.unusedSimpArgs false
def weld_Of.f (l0 : List Int) : Option (Int × Int × Int × Int × ByteArray × ByteArray) := if (l0.length : Int) > 268435456 then (some (0, 0, 0, 0, (⟨#[]⟩ : ByteArray), (⟨#[]⟩ : ByteArray))) else ((weld_Sizes.f l0).bind fun bt102 => (if 0 ≤ (mn 3 (l0.length : Int)) then (if (mn 3 (l0.length : Int)) ≤ (l0.length : Int) then (if 0 ≤ (mx 0 (wrap64 ((l0.length : Int) - 3))) then (if (mx 0 (wrap64 ((l0.length : Int) - 3))) ≤ (l0.length : Int) then (some (bt102.1, bt102.2.1, bt102.2.2.1, bt102.2.2.2, strOfNums (l0.take ((mn 3 (l0.length : Int)) : Int).toNat), strOfNums (l0.drop ((mx 0 (wrap64 ((l0.length : Int) - 3))) : Int).toNat))) else (none)) else (none)) else (none)) else (none)))
def weld_Of.T3 : Bool × List (List Nat × List Nat) := (true, [([], []), ([0], [0]), ([], []), ([], []), ([3], [3]), ([4], [4]), ([2, 5], [2, 5]), ([6], [6]), ([], []), ([], []), ([9], [9]), ([10], [10]), ([11], [11]), ([8, 12], [8, 12]), ([13], [13]), ([1, 7, 14], [1, 7, 14]), ([15, 1, 0, 1, 2, 3, 4, 5, 6, 7, 8, 9, 10, 11, 12, 13, 14, 15], [15])])
def weld_Of.B3 : List Nat := [0, 1, 0, 0, 8, 24, 60, 124, 0, 0, 512, 1536, 3584, 7936, 16128, 32767, 65535]
theorem weld_Of.tab3 : rtab .any (opsOf Tryd.f12 3) = weld_Of.T3 := by kernel_rfl
theorem weld_Of.bits3 : waitsOk weld_Of.T3.2 weld_Of.B3 = true := by kernel_rfl
set_option maxHeartbeats 8000000 in
set_option maxRecDepth 100000 in
theorem weld_Of.calls (A0 : Option Addr) (c0 : Nat) (l0 : List Int) (r1 : Int) (r2 : Int) (r3 : Int) (r4 : Int) (r5 : ByteArray) (r6 : ByteArray) (w : World) (hG : Glob.Globs w) (hr0 : Kd.C (Kd.int .u8) w A0 l0.length l0) (hc0 : l0.length ≤ c0) (h : weld_Of.f l0 = some (r1, r2, r3, r4, r5, r6)) :
  Calls Tryd.prog 12 #[.slice A0 l0.length c0] w fun e w' => e = .returned (.agg #[.int .i64 r1, .int .i64 r2, .int .i64 r3, .int .i64 r4, .string r5, .string r6]) ∧ Below w.heap.size w w' := by
 have hu26 := Tryd.underlying26
 have HG := Aside0.mk hG; clear hG; have HR0 := Aside0.mk hr0; have HC0 := Aside0.mk hc0; clear hr0 hc0
 have HB := Aside0.mk (Below.refl w.heap.size w)
 have H : (if (l0.length : Int) > 268435456 then (some (0, 0, 0, 0, (⟨#[]⟩ : ByteArray), (⟨#[]⟩ : ByteArray))) else ((weld_Sizes.f l0).bind fun bt102 => (if 0 ≤ (mn 3 (l0.length : Int)) then (if (mn 3 (l0.length : Int)) ≤ (l0.length : Int) then (if 0 ≤ (mx 0 (wrap64 ((l0.length : Int) - 3))) then (if (mx 0 (wrap64 ((l0.length : Int) - 3))) ≤ (l0.length : Int) then (some (bt102.1, bt102.2.1, bt102.2.2.1, bt102.2.2.2, strOfNums (l0.take ((mn 3 (l0.length : Int)) : Int).toNat), strOfNums (l0.drop ((mx 0 (wrap64 ((l0.length : Int) - 3))) : Int).toNat))) else (none)) else (none)) else (none)) else (none)))) = some (r1, r2, r3, r4, r5, r6) := h
 clear h
 by_cases c2 : (l0.length : Int) > 268435456
 ·rw [if_pos c2] at H
  have c2b0 : decide (268435456 < (l0.length : Int)) = true := decide_eq_true c2
  have c2b1 : decide (268435456 < l0.length) = true := decide_eq_true (by omega)
  clear c2
  simp only [Option.some.injEq, Prod.mk.injEq] at H
  obtain ⟨rfl, rfl, rfl, rfl, rfl, rfl⟩ := H
  go_enter Tryd.func12, Tryd.ntmps12
  go_wp2_with (first | ((with_reducible refine gate_dst (N := 2) rfl ?_); refine box_event ?hg (N := 2) ?hd (cs := #[.int .i64 0, .int .i64 0, .int .i64 0, .int .i64 0, .string (⟨#[]⟩ : ByteArray), .string (⟨#[]⟩ : ByteArray)]) (t := 26) ?hr ?_; (case hd => rfl); (case hg => rfl); (case hr => first | (go_simp; done) | (go_simp; rfl)); intro gb101 hg w3 hbox hb; have BK101 := Aside0.mk (hbox); have GW101 := Aside0.mk ((by rw [hg]; exact (below_size (bl HB.out)) : w.heap.size ≤ gb101)); have GE101 := GW101; replace HB := Aside0.mk (below_step (bl HB.out) hb); clear hb hbox hg; obtain ⟨hcz4_0, hcz4_1, hcz4_2, hcz4_3, hcz4_4, hcz4_5⟩ := c6 BK101.out; obtain ⟨hfz4_0, hfz4_1, hfz4_2, hfz4_3, hfz4_4, hfz4_5⟩ := f6 BK101.out))
  refine bodyPost_ret (results_cell_row rfl _ _ gb101 26 #[.int .i64 0, .int .i64 0, .int .i64 0, .int .i64 0, .string (⟨#[]⟩ : ByteArray), .string (⟨#[]⟩ : ByteArray)] (0, 0) _ rfl (by refine pl ?_; refine blk_put (cs := #[.int .i64 0, .int .i64 0, .int .i64 0, .int .i64 0, .string (⟨#[]⟩ : ByteArray), .string (⟨#[]⟩ : ByteArray)]) ?_ 5 _ rfl; refine pl ?_; refine blk_put (cs := #[.int .i64 0, .int .i64 0, .int .i64 0, .int .i64 0, .string (⟨#[]⟩ : ByteArray), .string (⟨#[]⟩ : ByteArray)]) ?_ 4 _ rfl; refine pl ?_; refine blk_put (cs := #[.int .i64 0, .int .i64 0, .int .i64 0, .int .i64 0, .string (⟨#[]⟩ : ByteArray), .string (⟨#[]⟩ : ByteArray)]) ?_ 3 _ rfl; refine pl ?_; refine blk_put (cs := #[.int .i64 0, .int .i64 0, .int .i64 0, .int .i64 0, .string (⟨#[]⟩ : ByteArray), .string (⟨#[]⟩ : ByteArray)]) ?_ 2 _ rfl; refine pl ?_; refine blk_put (cs := #[.int .i64 0, .int .i64 0, .int .i64 0, .int .i64 0, .string (⟨#[]⟩ : ByteArray), .string (⟨#[]⟩ : ByteArray)]) ?_ 1 _ rfl; refine pl ?_; refine blk_put (cs := #[.int .i64 0, .int .i64 0, .int .i64 0, .int .i64 0, .string (⟨#[]⟩ : ByteArray), .string (⟨#[]⟩ : ByteArray)]) ?_ 0 _ rfl; refine pl ?_; exact BK101.out) Tryd.underlying26 rfl (by kernel_rfl)) rfl ?_
  exact ⟨by first | rfl | (simp [errW_none, errW_some] <;> rfl) | (simp [*, errW_none, errW_some] <;> rfl), by repeat (first | (with_reducible first | exact HB.out | apply below_alloc | apply pw_below_drewN | apply below_drew1 | refine below_set ?_ GE101.out) | exact HB.out)⟩
 ·rw [if_neg c2] at H
  have c2b0 : decide (268435456 < (l0.length : Int)) = false := decide_eq_false c2
  have c2b1 : decide (268435456 < l0.length) = false := decide_eq_false (by omega)
  clear c2
  replace H := Option.bind_eq_some_iff.mp H
  obtain ⟨⟨t102, t103, t104, t105⟩, A50, H⟩ := H
  replace H : (if 0 ≤ (mn 3 (l0.length : Int)) then (if (mn 3 (l0.length : Int)) ≤ (l0.length : Int) then (if 0 ≤ (mx 0 (wrap64 ((l0.length : Int) - 3))) then (if (mx 0 (wrap64 ((l0.length : Int) - 3))) ≤ (l0.length : Int) then (some (t102, t103, t104, t105, strOfNums (l0.take ((mn 3 (l0.length : Int)) : Int).toNat), strOfNums (l0.drop ((mx 0 (wrap64 ((l0.length : Int) - 3))) : Int).toNat))) else (none)) else (none)) else (none)) else (none)) = some (r1, r2, r3, r4, r5, r6) := H
  have A5 := Aside0.mk A50; clear A50
  obtain ⟨ji6, hji6⟩ : ∃ j_ : Int, (mn 3 (l0.length : Int)) = j_ := ⟨_, rfl⟩
  replace H : (if 0 ≤ (ji6) then (if (ji6) ≤ (l0.length : Int) then (if 0 ≤ (mx 0 (wrap64 ((l0.length : Int) - 3))) then (if (mx 0 (wrap64 ((l0.length : Int) - 3))) ≤ (l0.length : Int) then (some (t102, t103, t104, t105, strOfNums (l0.take ((ji6) : Int).toNat), strOfNums (l0.drop ((mx 0 (wrap64 ((l0.length : Int) - 3))) : Int).toNat))) else (none)) else (none)) else (none)) else (none)) = some (r1, r2, r3, r4, r5, r6) := by first | (rw [hji6] at H; exact H) | (simp only [hji6] at H ⊢; exact H)
  (try rw [hji6] at A5)
  (try (have hji6h : ji6 ≤ 3 := by (rw [← hji6]; unfold mn; (repeat' split) <;> omega)))
  (try (have hji6g : ji6 ≤ 64 := by omega))
  (try (have hji6l : 0 ≤ ji6 := by (rw [← hji6]; unfold mn; (repeat' split) <;> omega)))
  (try (have hji6m : 0 ≤ ji6 := by omega))
  have hji6_ : (if (l0.length : Int) < 3 then (l0.length : Int) else 3) = ji6 := hji6
  by_cases c7 : 0 ≤ (ji6)
  ·rw [if_pos c7] at H
   have c7b0 := eq_true c7
   have c7b1 : decide (0 ≤ (ji6)) = true := decide_eq_true c7
   clear c7
   by_cases c8 : (ji6) ≤ (l0.length : Int)
   ·rw [if_pos c8] at H
    have c8b0 := eq_true c8
    have c8b1 : decide ((ji6) ≤ (l0.length : Int)) = true := decide_eq_true c8
    clear c8
    obtain ⟨ji9, hji9⟩ : ∃ j_ : Int, (mx 0 (wrap64 ((l0.length : Int) - 3))) = j_ := ⟨_, rfl⟩
    replace H : (if 0 ≤ (ji9) then (if (ji9) ≤ (l0.length : Int) then (some (t102, t103, t104, t105, strOfNums (l0.take ((ji6) : Int).toNat), strOfNums (l0.drop ((ji9) : Int).toNat))) else (none)) else (none)) = some (r1, r2, r3, r4, r5, r6) := by first | (rw [hji9] at H; exact H) | (simp only [hji9] at H ⊢; exact H)
    (try rw [hji9] at A5)
    (try (have hji9l : 0 ≤ ji9 := by (rw [← hji9]; unfold mx; (repeat' split) <;> omega)))
    (try (have hji9m : 0 ≤ ji9 := by omega))
    have hji9_ : (if 0 < (wrap64 ((l0.length : Int) - 3)) then (wrap64 ((l0.length : Int) - 3)) else 0) = ji9 := hji9
    by_cases c10 : 0 ≤ (ji9)
    ·rw [if_pos c10] at H
     have c10b0 := eq_true c10
     have c10b1 : decide (0 ≤ (ji9)) = true := decide_eq_true c10
     clear c10
     by_cases c11 : (ji9) ≤ (l0.length : Int)
     ·rw [if_pos c11] at H
      have c11b0 := eq_true c11
      have c11b1 : decide ((ji9) ≤ (l0.length : Int)) = true := decide_eq_true c11
      clear c11
      simp only [Option.some.injEq, Prod.mk.injEq] at H
      obtain ⟨rfl, rfl, rfl, rfl, rfl, rfl⟩ := H
      go_enter Tryd.func12, Tryd.ntmps12
      try go_wp2_with (first | ((with_reducible refine gate_dst (N := 2) rfl ?_); refine box_event ?hg (N := 2) ?hd (cs := #[.int .i64 0, .int .i64 0, .int .i64 0, .int .i64 0, .string (⟨#[]⟩ : ByteArray), .string (⟨#[]⟩ : ByteArray)]) (t := 26) ?hr ?_; (case hd => rfl); (case hg => rfl); (case hr => first | (go_simp; done) | (go_simp; rfl)); intro gb101 hg w12 hbox hb; have BK101 := Aside0.mk (hbox); have GW101 := Aside0.mk ((by rw [hg]; exact (below_size (bl HB.out)) : w.heap.size ≤ gb101)); have GE101 := GW101; replace HB := Aside0.mk (below_step (bl HB.out) hb); clear hb hbox hg))
      replace BK101 := Aside0.mk (blk_drew BK101.out); replace HB := Aside0.mk (below_drew1 HB.out)
      obtain ⟨i014, hi014, _, hsz14, _⟩ := info_parts info5
      obtain ⟨hcut14, hA14, hC14⟩ := print_take_of (P := Tryd.prog) (Value.int .u8) 0 29 5 .i64 Tryd.underlying29 hi014 hsz14 A0 c0 l0 (ji6) (of_decide_eq_true (by first | (with_reducible assumption) | assumption)) (of_decide_eq_true (by first | (with_reducible assumption) | assumption)) HC0.out
      have HR106 := Aside0.mk (Kd.C_of_reads (h1 := fun _ => rfl) (hA14 _ (Kd.reads_of_C HR0.out)))
      have HC106 := Aside0.mk hC14; clear hA14 hC14 hi014 hsz14
      obtain ⟨i015, hi015, _, hsz15, _⟩ := info_parts info5
      obtain ⟨A15, hcut15, hA15, hC15⟩ := print_drop_of (P := Tryd.prog) (Value.int .u8) 0 29 5 .i64 Tryd.underlying29 hi015 hsz15 A0 c0 l0 (ji9) (of_decide_eq_true (by first | (with_reducible assumption) | assumption)) (of_decide_eq_true (by first | (with_reducible assumption) | assumption)) HC0.out
      have HR107 := Aside0.mk (Kd.C_of_reads (h1 := fun _ => rfl) (hA15 _ (Kd.reads_of_C HR0.out)))
      have HC107 := Aside0.mk hC15; clear hA15 hC15 hi015 hsz15
      have cvA : ∀ W_ : World, Below w.heap.size w W_ → Sem.run Tryd.prog (convert 29 9 (.slice A0 ji6.toNat c0)) W_ = .ok (.string (strOfNums (l0.take ji6.toNat))) W_ := fun W_ hb_ => by have e_ : (l0.take ji6.toNat).length = ji6.toNat := by { have z_ : ji6 ≤ (l0.length : Int) := of_decide_eq_true (by assumption); rw [List.length_take]; omega }; have z_ := Kd.C_string (P := Tryd.prog) (A := A0) (c := c0) Tryd.underlying29 Tryd.underlying5 Tryd.underlying9 (Kd.C_below HR106.out hb_); rw [e_] at z_; exact z_
      have cvB : ∀ W_ : World, Below w.heap.size w W_ → Sem.run Tryd.prog (convert 29 9 (.slice A15 (l0.length - ji9.toNat) ((c0 - (ji9).toNat)))) W_ = .ok (.string (strOfNums (l0.drop ji9.toNat))) W_ := fun W_ hb_ => by have z_ := Kd.C_string (P := Tryd.prog) (A := A15) (c := (c0 - (ji9).toNat)) Tryd.underlying29 Tryd.underlying5 Tryd.underlying9 (Kd.C_below HR107.out hb_); rw [List.length_drop] at z_; exact z_
      have CVA := Aside0.mk cvA; have CVB := Aside0.mk cvB; clear cvA cvB
      refine start_ (n := 17) (S := fun w' => Sem.run Tryd.prog (convert 29 9 (.slice A0 ji6.toNat c0)) w' = .ok (.string (strOfNums (l0.take ji6.toNat))) w' ∧ Sem.run Tryd.prog (convert 29 9 (.slice A15 (l0.length - ji9.toNat) ((c0 - (ji9).toNat)))) w' = .ok (.string (strOfNums (l0.drop ji9.toNat))) w') (ds := []) #[false, false, false, false, false, false, false, false, false, false, false, false, false, false, false, false, false] (by kernel_rfl) rfl rfl ⟨CVA.out _ (by repeat (first | (with_reducible first | exact HB.out | apply below_alloc | apply pw_below_drewN | apply below_drew1 | apply below_drew | refine below_set ?_ GE101.out) | exact HB.out)), CVB.out _ (by repeat (first | (with_reducible first | exact HB.out | apply below_alloc | apply pw_below_drewN | apply below_drew1 | apply below_drew | refine below_set ?_ GE101.out) | exact HB.out))⟩ (fun hHeld => ?_); refine with_tabW weld_Of.tab3 weld_Of.bits3 (fun HT_ HW_ => ?_)
      generalize w12.drew = w13 at BK101 HB HR106 HR107 hHeld ⊢
      refine pure_ (i := 0) (N := some 7) (v := ?_) (a' := ?_) #[true, false, false, false, false, false, false, false, false, false, false, false, false, false, false, false, false] rfl rfl (any_of HT_.out (by kernel_rfl)) (fun _ _ _ h => h) (Or.inl ⟨by rfl, ?_⟩) ?_ ?_
      rotate_left
      ·intro w'
       go_simp
       with_reducible rfl
      rotate_left
      ·simp only [Act.put, List.setIfInBounds_toArray, List.set_cons_zero, List.set_cons_succ, i64_w, i32_w]
       rfl
      refine pure_ (i := 2) (N := some 9) (v := ?_) (a' := ?_) #[true, false, true, false, false, false, false, false, false, false, false, false, false, false, false, false, false] rfl rfl (any_of HT_.out (by kernel_rfl)) (fun _ _ _ h => h) (Or.inl ⟨by rfl, ?_⟩) ?_ ?_
      rotate_left
      ·intro w'
       go_simp
       with_reducible rfl
      rotate_left
      ·simp only [Act.put, List.setIfInBounds_toArray, List.set_cons_zero, List.set_cons_succ, i64_w, i32_w]
       rfl
      refine pure_ (i := 3) (N := some 10) (v := ?_) (a' := ?_) #[true, false, true, true, false, false, false, false, false, false, false, false, false, false, false, false, false] rfl rfl (any_of HT_.out (by kernel_rfl)) (fun _ _ _ h => h) (Or.inl ⟨by rfl, ?_⟩) ?_ ?_
      rotate_left
      ·intro w'
       go_simp
       with_reducible rfl
      rotate_left
      ·simp only [Act.put, List.setIfInBounds_toArray, List.set_cons_zero, List.set_cons_succ, i64_w, i32_w]
       rfl
      refine pure_ (i := 4) (N := some 11) (v := ?_) (a' := ?_) #[true, false, true, true, true, false, false, false, false, false, false, false, false, false, false, false, false] rfl rfl (any_of HT_.out (by kernel_rfl)) (fun _ _ _ h => h) (Or.inl ⟨by rfl, ?_⟩) ?_ ?_
      rotate_left
      ·intro w'
       go_simp
       with_reducible rfl
      rotate_left
      ·simp only [Act.put, List.setIfInBounds_toArray, List.set_cons_zero, List.set_cons_succ, i64_w, i32_w]
       rfl
      refine pure_ (i := 5) (N := some 12) (v := ?_) (a' := ?_) #[true, false, true, true, true, true, false, false, false, false, false, false, false, false, false, false, false] rfl rfl (any_of HT_.out (by kernel_rfl)) (fun _ _ _ h => h) (Or.inl ⟨by rfl, ?_⟩) ?_ ?_
      rotate_left
      ·intro w'
       go_simp
       with_reducible rfl
      rotate_left
      ·simp only [Act.put, List.setIfInBounds_toArray, List.set_cons_zero, List.set_cons_succ, i64_w, i32_w]
       rfl
      refine pure_ (i := 6) (N := some 13) (v := ?_) (a' := ?_) #[true, false, true, true, true, true, true, false, false, false, false, false, false, false, false, false, false] rfl rfl (any_of HT_.out (by kernel_rfl)) (fun _ _ _ h => h) (Or.inl ⟨by rfl, ?_⟩) ?_ ?_
      rotate_left
      ·intro w'
       go_simp
       with_reducible rfl
      rotate_left
      ·simp only [Act.put, List.setIfInBounds_toArray, List.set_cons_zero, List.set_cons_succ, i64_w, i32_w]
       rfl
      refine take_ (i := 7) (N := some 14) (v := ?_) (a' := ?_) #[true, false, true, true, true, true, true, true, false, false, false, false, false, false, false, false, false] rfl rfl (by kernel_rfl) (fun _ _ _ h => h) (Or.inl ⟨by rfl, ?_⟩) hHeld ?_ ?_
      rotate_left
      ·rintro w' ⟨cv1_, cv2_⟩
       go_simp
       with_reducible rfl
      rotate_left
      ·simp only [Act.put, List.setIfInBounds_toArray, List.set_cons_zero, List.set_cons_succ, i64_w, i32_w]
       rfl
      refine pure_ (i := 8) (N := some 15) (v := ?_) (a' := ?_) #[true, false, true, true, true, true, true, true, true, false, false, false, false, false, false, false, false] rfl rfl (any_of HT_.out (by kernel_rfl)) (fun _ _ _ h => h) (Or.inl ⟨by rfl, ?_⟩) ?_ ?_
      rotate_left
      ·intro w'
       go_simp
       with_reducible rfl
      rotate_left
      ·simp only [Act.put, List.setIfInBounds_toArray, List.set_cons_zero, List.set_cons_succ, i64_w, i32_w]
       rfl
      refine pure_ (i := 9) (N := some 16) (v := ?_) (a' := ?_) #[true, false, true, true, true, true, true, true, true, true, false, false, false, false, false, false, false] rfl rfl (any_of HT_.out (by kernel_rfl)) (fun _ _ _ h => h) (Or.inl ⟨by rfl, ?_⟩) ?_ ?_
      rotate_left
      ·intro w'
       go_simp
       with_reducible rfl
      rotate_left
      ·simp only [Act.put, List.setIfInBounds_toArray, List.set_cons_zero, List.set_cons_succ, i64_w, i32_w]
       rfl
      refine pure_ (i := 10) (N := some 17) (v := ?_) (a' := ?_) #[true, false, true, true, true, true, true, true, true, true, true, false, false, false, false, false, false] rfl rfl (any_of HT_.out (by kernel_rfl)) (fun _ _ _ h => h) (Or.inl ⟨by rfl, ?_⟩) ?_ ?_
      rotate_left
      ·intro w'
       go_simp
       with_reducible rfl
      rotate_left
      ·simp only [Act.put, List.setIfInBounds_toArray, List.set_cons_zero, List.set_cons_succ, i64_w, i32_w]
       rfl
      refine pure_ (i := 11) (N := some 18) (v := ?_) (a' := ?_) #[true, false, true, true, true, true, true, true, true, true, true, true, false, false, false, false, false] rfl rfl (any_of HT_.out (by kernel_rfl)) (fun _ _ _ h => h) (Or.inl ⟨by rfl, ?_⟩) ?_ ?_
      rotate_left
      ·intro w'
       go_simp
       with_reducible rfl
      rotate_left
      ·simp only [Act.put, List.setIfInBounds_toArray, List.set_cons_zero, List.set_cons_succ, i64_w, i32_w]
       rfl
      refine pure_ (i := 12) (N := some 19) (v := ?_) (a' := ?_) #[true, false, true, true, true, true, true, true, true, true, true, true, true, false, false, false, false] rfl rfl (any_of HT_.out (by kernel_rfl)) (fun _ _ _ h => h) (Or.inl ⟨by rfl, ?_⟩) ?_ ?_
      rotate_left
      ·intro w'
       go_simp
       with_reducible rfl
      rotate_left
      ·simp only [Act.put, List.setIfInBounds_toArray, List.set_cons_zero, List.set_cons_succ, i64_w, i32_w]
       rfl
      refine pure_ (i := 13) (N := some 20) (v := ?_) (a' := ?_) #[true, false, true, true, true, true, true, true, true, true, true, true, true, true, false, false, false] rfl rfl (any_of HT_.out (by kernel_rfl)) (fun _ _ _ h => h) (Or.inl ⟨by rfl, ?_⟩) ?_ ?_
      rotate_left
      ·intro w'
       go_simp
       with_reducible rfl
      rotate_left
      ·simp only [Act.put, List.setIfInBounds_toArray, List.set_cons_zero, List.set_cons_succ, i64_w, i32_w]
       rfl
      refine take_ (i := 14) (N := some 21) (v := ?_) (a' := ?_) #[true, false, true, true, true, true, true, true, true, true, true, true, true, true, true, false, false] rfl rfl (by kernel_rfl) (fun _ _ _ h => h) (Or.inl ⟨by rfl, ?_⟩) hHeld ?_ ?_
      rotate_left
      ·rintro w' ⟨cv1_, cv2_⟩
       go_simp
       with_reducible rfl
      rotate_left
      ·simp only [Act.put, List.setIfInBounds_toArray, List.set_cons_zero, List.set_cons_succ, i64_w, i32_w]
       rfl
      refine one_ (i := 1) (N := some 8) #[true, true, true, true, true, true, true, true, true, true, true, true, true, true, true, false, false] rfl rfl (one_of HT_.out (by kernel_rfl)) (by decide) (fun K hK => ?_)
      refine goes_ Tryd.func13 (by kernel_rfl) rfl #[.slice A0 l0.length c0] (by rfl) rfl rfl (by (try simp only [List.map_toArray, List.map_cons, List.map_nil]); first | done | rfl | (simp only [List.length_drop, List.length_take]; rfl)) ?_
      with_reducible refine (weld_Sizes.calls _ _ l0 t102 t103 t104 t105 _ ?side1 ?side2 ?side3 A5.out).mono ?_
      (case side1 => first | (with_reducible exact HG.out) | exact Glob.Globs_below HG.out (by repeat (first | (with_reducible first | exact HB.out | apply below_alloc | apply pw_below_drewN | apply below_drew1 | refine below_set ?_ GE101.out) | exact HB.out)))
      (case side2 => repeat (first | exact (Kd.C_below HR0.out HB.out) | (with_reducible refine Kd.C_alloc ?_ _) | (with_reducible refine Kd.C_drewN ?_ _) | (with_reducible refine Kd.C_drew ?_)))
      (case side3 => exact HC0.out)
      rintro e w16 ⟨rfl, hb⟩
      refine ⟨_, rfl, ?_⟩
      replace BK101 := Aside0.mk (blk_below (pl BK101.out) hb); replace HB := Aside0.mk (below_step (by repeat (first | (with_reducible first | exact HB.out | apply below_alloc | apply pw_below_drewN | apply below_drew1 | refine below_set ?_ GE101.out) | exact HB.out)) hb)
      (try clear hb)
      (try clear hb2)
      (try clear hk)
      (try clear hi)
      refine hK.out _ _ ⟨CVA.out _ (by repeat (first | (with_reducible first | exact HB.out | apply below_alloc | apply pw_below_drewN | apply below_drew1 | apply below_drew | refine below_set ?_ GE101.out) | exact HB.out)), CVB.out _ (by repeat (first | (with_reducible first | exact HB.out | apply below_alloc | apply pw_below_drewN | apply below_drew1 | apply below_drew | refine below_set ?_ GE101.out) | exact HB.out))⟩ (fun hHeld => ?_)
      clear hK K
      refine norm_ (a' := ?_) ?_ ?_
      rotate_left
      ·show Act.put _ (some 8) _ = _
       simp only [Act.put, List.setIfInBounds_toArray, List.set_cons_zero, List.set_cons_succ, i64_w, i32_w]
       rfl
      refine pure_ (i := 15) (N := some 22) (v := ?_) (a' := ?_) #[true, true, true, true, true, true, true, true, true, true, true, true, true, true, true, true, false] rfl rfl (any_of HT_.out (by kernel_rfl)) (fun _ _ _ h => h) (Or.inl ⟨by rfl, ?_⟩) ?_ ?_
      rotate_left
      ·intro w'
       go_simp
       with_reducible rfl
      rotate_left
      ·simp only [Act.put, List.setIfInBounds_toArray, List.set_cons_zero, List.set_cons_succ, i64_w, i32_w]
       rfl
      refine one_ (i := 16) (N := none) #[true, true, true, true, true, true, true, true, true, true, true, true, true, true, true, true, true] rfl rfl (one_of HT_.out (by kernel_rfl)) (by decide) (fun K hK => ?_)
      have hs20 : w16.cell? ⟨gb101, 0, none⟩ = some (.int .i64 0) := (blk_cell BK101.out 0).trans rfl
      have hfs20 := blk_frozen BK101.out 0
      have hs21 : w16.cell? ⟨gb101, 1, none⟩ = some (.int .i64 0) := (blk_cell BK101.out 1).trans rfl
      have hfs21 := blk_frozen BK101.out 1
      have hs22 : w16.cell? ⟨gb101, 2, none⟩ = some (.int .i64 0) := (blk_cell BK101.out 2).trans rfl
      have hfs22 := blk_frozen BK101.out 2
      have hs23 : w16.cell? ⟨gb101, 3, none⟩ = some (.int .i64 0) := (blk_cell BK101.out 3).trans rfl
      have hfs23 := blk_frozen BK101.out 3
      have hs24 : w16.cell? ⟨gb101, 4, none⟩ = some (.string (⟨#[]⟩ : ByteArray)) := (blk_cell BK101.out 4).trans rfl
      have hfs24 := blk_frozen BK101.out 4
      have hs25 : w16.cell? ⟨gb101, 5, none⟩ = some (.string (⟨#[]⟩ : ByteArray)) := (blk_cell BK101.out 5).trans rfl
      have hfs25 := blk_frozen BK101.out 5
      refine skip_ (w1 := ?_) (by rfl) rfl ?_ ?_
      rotate_left
      ·go_simp
       rfl
      refine hK.out _ _ ⟨CVA.out _ (by repeat (first | (with_reducible first | exact HB.out | apply below_alloc | apply pw_below_drewN | apply below_drew1 | apply below_drew | refine below_set ?_ GE101.out) | exact HB.out)), CVB.out _ (by repeat (first | (with_reducible first | exact HB.out | apply below_alloc | apply pw_below_drewN | apply below_drew1 | apply below_drew | refine below_set ?_ GE101.out) | exact HB.out))⟩ (fun hHeld => ?_)
      clear hK K
      refine done_ (done_of HT_.out (by kernel_rfl)) ?_
      try go_wp2
      refine bodyPost_ret (results_cell_row rfl _ _ gb101 26 #[.int .i64 t102, .int .i64 t103, .int .i64 t104, .int .i64 t105, .string (strOfNums (l0.take ((ji6) : Int).toNat)), .string (strOfNums (l0.drop ((ji9) : Int).toNat))] (0, 0) _ rfl (by refine pl ?_; refine blk_put (cs := #[.int .i64 t102, .int .i64 t103, .int .i64 t104, .int .i64 t105, .string (strOfNums (l0.take ((ji6) : Int).toNat)), .string (⟨#[]⟩ : ByteArray)]) ?_ 5 _ rfl; refine pl ?_; refine blk_put (cs := #[.int .i64 t102, .int .i64 t103, .int .i64 t104, .int .i64 t105, .string (⟨#[]⟩ : ByteArray), .string (⟨#[]⟩ : ByteArray)]) ?_ 4 _ rfl; refine pl ?_; refine blk_put (cs := #[.int .i64 t102, .int .i64 t103, .int .i64 t104, .int .i64 0, .string (⟨#[]⟩ : ByteArray), .string (⟨#[]⟩ : ByteArray)]) ?_ 3 _ rfl; refine pl ?_; refine blk_put (cs := #[.int .i64 t102, .int .i64 t103, .int .i64 0, .int .i64 0, .string (⟨#[]⟩ : ByteArray), .string (⟨#[]⟩ : ByteArray)]) ?_ 2 _ rfl; refine pl ?_; refine blk_put (cs := #[.int .i64 t102, .int .i64 0, .int .i64 0, .int .i64 0, .string (⟨#[]⟩ : ByteArray), .string (⟨#[]⟩ : ByteArray)]) ?_ 1 _ rfl; refine pl ?_; refine blk_put (cs := #[.int .i64 0, .int .i64 0, .int .i64 0, .int .i64 0, .string (⟨#[]⟩ : ByteArray), .string (⟨#[]⟩ : ByteArray)]) ?_ 0 _ rfl; refine pl ?_; exact BK101.out) Tryd.underlying26 rfl (by kernel_rfl)) rfl ?_
      exact ⟨by first | rfl | (simp [errW_none, errW_some] <;> rfl) | (simp only [← hji6, ← hji9]; first | rfl | (simp [errW_none, errW_some] <;> rfl)) | (simp [*, errW_none, errW_some] <;> rfl), by repeat (first | (with_reducible first | exact HB.out | apply below_alloc | apply pw_below_drewN | apply below_drew1 | refine below_set ?_ GE101.out) | exact HB.out)⟩
     ·rw [if_neg c11] at H
      exact absurd H (by simp)
    ·rw [if_neg c10] at H
     exact absurd H (by simp)
   ·rw [if_neg c8] at H
    exact absurd H (by simp)
  ·rw [if_neg c7] at H
   exact absurd H (by simp)
def weld_short.f (a0_0 : Int) (a0_1 : Int) (a0_2 : Int) (a0_3 : Int) (a0_4 : ByteArray) (a0_5 : ByteArray) : Option (ByteArray × Bool) := if 0 ≤ (wrap64 ((a0_4.size : Int) - (wrap64 ((wrap64 ((a0_4.size : Int) + (a0_5.size : Int))) - a0_0)))) then (if (wrap64 ((a0_4.size : Int) - (wrap64 ((wrap64 ((a0_4.size : Int) + (a0_5.size : Int))) - a0_0)))) ≤ (a0_4.size : Int) then (if 0 ≤ (wrap64 ((wrap64 ((a0_4.size : Int) + (a0_5.size : Int))) - a0_0)) then (if (wrap64 ((wrap64 ((a0_4.size : Int) + (a0_5.size : Int))) - a0_0)) ≤ (a0_5.size : Int) then (if (a0_4.extract ((wrap64 ((a0_4.size : Int) - (wrap64 ((wrap64 ((a0_4.size : Int) + (a0_5.size : Int))) - a0_0)))) : Int).toNat a0_4.size).toList = (a0_5.extract 0 ((wrap64 ((wrap64 ((a0_4.size : Int) + (a0_5.size : Int))) - a0_0)) : Int).toNat).toList then (if a0_4.size + (a0_5.extract ((wrap64 ((wrap64 ((a0_4.size : Int) + (a0_5.size : Int))) - a0_0)) : Int).toNat a0_5.size).size ≤ 9223372036854775807 then (some (a0_4 ++ (a0_5.extract ((wrap64 ((wrap64 ((a0_4.size : Int) + (a0_5.size : Int))) - a0_0)) : Int).toNat a0_5.size), true)) else (none)) else (some ((⟨#[]⟩ : ByteArray), false))) else (none)) else (none)) else (none)) else (none)
set_option maxHeartbeats 8000000 in
set_option maxRecDepth 100000 in
theorem weld_short.calls (a0_0 : Int) (a0_1 : Int) (a0_2 : Int) (a0_3 : Int) (a0_4 : ByteArray) (a0_5 : ByteArray) (r1 : ByteArray) (r2 : Bool) (w : World) (h : weld_short.f a0_0 a0_1 a0_2 a0_3 a0_4 a0_5 = some (r1, r2)) :
  Calls Tryd.prog 24 #[.agg #[.int .i64 a0_0, .int .i64 a0_1, .int .i64 a0_2, .int .i64 a0_3, .string a0_4, .string a0_5]] w fun e w' => e = .returned (.tuple #[.string r1, .bool r2]) ∧ Below w.heap.size w w' := by
 have hu26 := Tryd.underlying26
 have HB := Aside0.mk (Below.refl w.heap.size w)
 have H : (if 0 ≤ (wrap64 ((a0_4.size : Int) - (wrap64 ((wrap64 ((a0_4.size : Int) + (a0_5.size : Int))) - a0_0)))) then (if (wrap64 ((a0_4.size : Int) - (wrap64 ((wrap64 ((a0_4.size : Int) + (a0_5.size : Int))) - a0_0)))) ≤ (a0_4.size : Int) then (if 0 ≤ (wrap64 ((wrap64 ((a0_4.size : Int) + (a0_5.size : Int))) - a0_0)) then (if (wrap64 ((wrap64 ((a0_4.size : Int) + (a0_5.size : Int))) - a0_0)) ≤ (a0_5.size : Int) then (if (a0_4.extract ((wrap64 ((a0_4.size : Int) - (wrap64 ((wrap64 ((a0_4.size : Int) + (a0_5.size : Int))) - a0_0)))) : Int).toNat a0_4.size).toList = (a0_5.extract 0 ((wrap64 ((wrap64 ((a0_4.size : Int) + (a0_5.size : Int))) - a0_0)) : Int).toNat).toList then (if a0_4.size + (a0_5.extract ((wrap64 ((wrap64 ((a0_4.size : Int) + (a0_5.size : Int))) - a0_0)) : Int).toNat a0_5.size).size ≤ 9223372036854775807 then (some (a0_4 ++ (a0_5.extract ((wrap64 ((wrap64 ((a0_4.size : Int) + (a0_5.size : Int))) - a0_0)) : Int).toNat a0_5.size), true)) else (none)) else (some ((⟨#[]⟩ : ByteArray), false))) else (none)) else (none)) else (none)) else (none)) = some (r1, r2) := h
 clear h
 obtain ⟨ji2, hji2⟩ : ∃ j_ : Int, (wrap64 ((a0_4.size : Int) - (wrap64 ((wrap64 ((a0_4.size : Int) + (a0_5.size : Int))) - a0_0)))) = j_ := ⟨_, rfl⟩
 replace H : (if 0 ≤ (ji2) then (if (ji2) ≤ (a0_4.size : Int) then (if 0 ≤ (wrap64 ((wrap64 ((a0_4.size : Int) + (a0_5.size : Int))) - a0_0)) then (if (wrap64 ((wrap64 ((a0_4.size : Int) + (a0_5.size : Int))) - a0_0)) ≤ (a0_5.size : Int) then (if (a0_4.extract ((ji2) : Int).toNat a0_4.size).toList = (a0_5.extract 0 ((wrap64 ((wrap64 ((a0_4.size : Int) + (a0_5.size : Int))) - a0_0)) : Int).toNat).toList then (if a0_4.size + (a0_5.extract ((wrap64 ((wrap64 ((a0_4.size : Int) + (a0_5.size : Int))) - a0_0)) : Int).toNat a0_5.size).size ≤ 9223372036854775807 then (some (a0_4 ++ (a0_5.extract ((wrap64 ((wrap64 ((a0_4.size : Int) + (a0_5.size : Int))) - a0_0)) : Int).toNat a0_5.size), true)) else (none)) else (some ((⟨#[]⟩ : ByteArray), false))) else (none)) else (none)) else (none)) else (none)) = some (r1, r2) := by first | (rw [hji2] at H; exact H) | (simp only [hji2] at H ⊢; exact H)
 have hji2w : (IntKind.i64.wrap ((a0_4.size : Int) - (wrap64 ((wrap64 ((a0_4.size : Int) + (a0_5.size : Int))) - a0_0)))) = ji2 := (i64_w _).trans hji2
 by_cases c3 : 0 ≤ (ji2)
 ·rw [if_pos c3] at H
  have c3b0 := eq_true c3
  have c3b1 : decide (0 ≤ (ji2)) = true := decide_eq_true c3
  clear c3
  by_cases c4 : (ji2) ≤ (a0_4.size : Int)
  ·rw [if_pos c4] at H
   have c4b0 := eq_true c4
   have c4b1 : decide ((ji2) ≤ (a0_4.size : Int)) = true := decide_eq_true c4
   clear c4
   obtain ⟨ji5, hji5⟩ : ∃ j_ : Int, (wrap64 ((wrap64 ((a0_4.size : Int) + (a0_5.size : Int))) - a0_0)) = j_ := ⟨_, rfl⟩
   replace H : (if 0 ≤ (ji5) then (if (ji5) ≤ (a0_5.size : Int) then (if (a0_4.extract ((ji2) : Int).toNat a0_4.size).toList = (a0_5.extract 0 ((ji5) : Int).toNat).toList then (if a0_4.size + (a0_5.extract ((ji5) : Int).toNat a0_5.size).size ≤ 9223372036854775807 then (some (a0_4 ++ (a0_5.extract ((ji5) : Int).toNat a0_5.size), true)) else (none)) else (some ((⟨#[]⟩ : ByteArray), false))) else (none)) else (none)) = some (r1, r2) := by first | (rw [hji5] at H; exact H) | (simp only [hji5] at H ⊢; exact H)
   have hji5w : (IntKind.i64.wrap ((wrap64 ((a0_4.size : Int) + (a0_5.size : Int))) - a0_0)) = ji5 := (i64_w _).trans hji5
   have hji2x : IntKind.i64.wrap ((a0_4.size : Int) - ji5) = ji2 := by rw [← hji5]; exact hji2w
   by_cases c6 : 0 ≤ (ji5)
   ·rw [if_pos c6] at H
    have c6b0 := eq_true c6
    have c6b1 : decide (0 ≤ (ji5)) = true := decide_eq_true c6
    clear c6
    by_cases c7 : (ji5) ≤ (a0_5.size : Int)
    ·rw [if_pos c7] at H
     have c7b0 := eq_true c7
     have c7b1 : decide ((ji5) ≤ (a0_5.size : Int)) = true := decide_eq_true c7
     clear c7
     by_cases c8 : (a0_4.extract ((ji2) : Int).toNat a0_4.size).toList = (a0_5.extract 0 ((ji5) : Int).toNat).toList
     ·rw [if_pos c8] at H
      have c8b0 : ((a0_4.extract ((ji2) : Int).toNat a0_4.size).toList == (a0_5.extract 0 ((ji5) : Int).toNat).toList) = true := beq_iff_eq.mpr c8
      have c8b1 : ((a0_4.extract ((ji2) : Int).toNat a0_4.size).toList != (a0_5.extract 0 ((ji5) : Int).toNat).toList) = false := bne_eq_false_iff_eq.mpr c8
      clear c8
      have c9b0 := eq_true (of_decide_eq_true (by first | (with_reducible assumption) | assumption) : 0 ≤ (ji5))
      have c10b0 := eq_true (of_decide_eq_true (by first | (with_reducible assumption) | assumption) : (ji5) ≤ (a0_5.size : Int))
      by_cases c11 : a0_4.size + (a0_5.extract ((ji5) : Int).toNat a0_5.size).size ≤ 9223372036854775807
      ·rw [if_pos c11] at H
       have c11b0 := eq_true c11
       have c11b1 : decide (a0_4.size + (a0_5.extract ((ji5) : Int).toNat a0_5.size).size ≤ 9223372036854775807) = true := decide_eq_true c11
       try have c11b2 : (9223372036854775807 < a0_4.size + (a0_5.extract ((ji5) : Int).toNat a0_5.size).size) = False := eq_false (Nat.not_lt.2 c11)
       have c11b3 : (9223372036854775807 < a0_4.size + (a0_5.size - ji5.toNat)) = False := eq_false (by have z_ := c11; simp only [ByteArray.size_extract] at z_; omega)
       simp only [Option.some.injEq, Prod.mk.injEq] at H
       obtain ⟨rfl, rfl⟩ := H
       go_enter Tryd.func24, Tryd.ntmps24
       go_wp2_with (first | ((with_reducible refine gate_dst (N := 1) rfl ?_); refine box_event ?hg (N := 1) ?hd (cs := #[.int .i64 a0_0, .int .i64 a0_1, .int .i64 a0_2, .int .i64 a0_3, .string a0_4, .string a0_5]) (t := 26) ?hr ?_; (case hd => rfl); (case hg => rfl); (case hr => first | (go_simp; done) | (go_simp; rfl)); intro gb108 hg w12 hbox hb; have BK108 := Aside0.mk (hbox); have GW108 := Aside0.mk ((by rw [hg]; exact (below_size (bl HB.out)) : w.heap.size ≤ gb108)); have GE108 := GW108; replace HB := Aside0.mk (below_step (bl HB.out) hb); clear hb hbox hg; obtain ⟨hcz13_0, hcz13_1, hcz13_2, hcz13_3, hcz13_4, hcz13_5⟩ := Go.Proofs.YtaojbcplmdjfnaaDoorW.PrintWords.c6 BK108.out; obtain ⟨hfz13_0, hfz13_1, hfz13_2, hfz13_3, hfz13_4, hfz13_5⟩ := f6 BK108.out))
       repeat (go_quiet (first | ((with_reducible refine gate_dst (N := 1) rfl ?_); refine box_event ?hg (N := 1) ?hd (cs := #[.int .i64 a0_0, .int .i64 a0_1, .int .i64 a0_2, .int .i64 a0_3, .string a0_4, .string a0_5]) (t := 26) ?hr ?_; (case hd => rfl); (case hg => rfl); (case hr => first | (go_simp; done) | (go_simp; rfl)); intro gb108 hg w12 hbox hb; have BK108 := Aside0.mk (hbox); have GW108 := Aside0.mk ((by rw [hg]; exact (below_size (bl HB.out)) : w.heap.size ≤ gb108)); have GE108 := GW108; replace HB := Aside0.mk (below_step (bl HB.out) hb); clear hb hbox hg; obtain ⟨hcz13_0, hcz13_1, hcz13_2, hcz13_3, hcz13_4, hcz13_5⟩ := Go.Proofs.YtaojbcplmdjfnaaDoorW.PrintWords.c6 BK108.out; obtain ⟨hfz13_0, hfz13_1, hfz13_2, hfz13_3, hfz13_4, hfz13_5⟩ := f6 BK108.out)); try go_wp2_with (first | ((with_reducible refine gate_dst (N := 1) rfl ?_); refine box_event ?hg (N := 1) ?hd (cs := #[.int .i64 a0_0, .int .i64 a0_1, .int .i64 a0_2, .int .i64 a0_3, .string a0_4, .string a0_5]) (t := 26) ?hr ?_; (case hd => rfl); (case hg => rfl); (case hr => first | (go_simp; done) | (go_simp; rfl)); intro gb108 hg w12 hbox hb; have BK108 := Aside0.mk (hbox); have GW108 := Aside0.mk ((by rw [hg]; exact (below_size (bl HB.out)) : w.heap.size ≤ gb108)); have GE108 := GW108; replace HB := Aside0.mk (below_step (bl HB.out) hb); clear hb hbox hg; obtain ⟨hcz13_0, hcz13_1, hcz13_2, hcz13_3, hcz13_4, hcz13_5⟩ := Go.Proofs.YtaojbcplmdjfnaaDoorW.PrintWords.c6 BK108.out; obtain ⟨hfz13_0, hfz13_1, hfz13_2, hfz13_3, hfz13_4, hfz13_5⟩ := f6 BK108.out)))
       go_ret2
       exact ⟨by first | rfl | (simp [errW_none, errW_some] <;> rfl) | (simp only [← hji2, ← hji5]; first | rfl | (simp [errW_none, errW_some] <;> rfl)) | (simp [*, errW_none, errW_some] <;> rfl), by repeat (first | (with_reducible first | exact HB.out | apply below_alloc | apply pw_below_drewN | apply below_drew1 | refine below_set ?_ GE108.out) | exact HB.out)⟩
      ·rw [if_neg c11] at H
       exact absurd H (by simp)
     ·rw [if_neg c8] at H
      have c8b0 : ((a0_4.extract ((ji2) : Int).toNat a0_4.size).toList == (a0_5.extract 0 ((ji5) : Int).toNat).toList) = false := beq_eq_false_iff_ne.mpr c8
      have c8b1 : ((a0_4.extract ((ji2) : Int).toNat a0_4.size).toList != (a0_5.extract 0 ((ji5) : Int).toNat).toList) = true := bne_iff_ne.mpr c8
      simp only [Option.some.injEq, Prod.mk.injEq] at H
      obtain ⟨rfl, rfl⟩ := H
      go_enter Tryd.func24, Tryd.ntmps24
      go_wp2_with (first | ((with_reducible refine gate_dst (N := 1) rfl ?_); refine box_event ?hg (N := 1) ?hd (cs := #[.int .i64 a0_0, .int .i64 a0_1, .int .i64 a0_2, .int .i64 a0_3, .string a0_4, .string a0_5]) (t := 26) ?hr ?_; (case hd => rfl); (case hg => rfl); (case hr => first | (go_simp; done) | (go_simp; rfl)); intro gb108 hg w14 hbox hb; have BK108 := Aside0.mk (hbox); have GW108 := Aside0.mk ((by rw [hg]; exact (below_size (bl HB.out)) : w.heap.size ≤ gb108)); have GE108 := GW108; replace HB := Aside0.mk (below_step (bl HB.out) hb); clear hb hbox hg; obtain ⟨hcz15_0, hcz15_1, hcz15_2, hcz15_3, hcz15_4, hcz15_5⟩ := Go.Proofs.YtaojbcplmdjfnaaDoorW.PrintWords.c6 BK108.out; obtain ⟨hfz15_0, hfz15_1, hfz15_2, hfz15_3, hfz15_4, hfz15_5⟩ := f6 BK108.out))
      repeat (go_quiet (first | ((with_reducible refine gate_dst (N := 1) rfl ?_); refine box_event ?hg (N := 1) ?hd (cs := #[.int .i64 a0_0, .int .i64 a0_1, .int .i64 a0_2, .int .i64 a0_3, .string a0_4, .string a0_5]) (t := 26) ?hr ?_; (case hd => rfl); (case hg => rfl); (case hr => first | (go_simp; done) | (go_simp; rfl)); intro gb108 hg w14 hbox hb; have BK108 := Aside0.mk (hbox); have GW108 := Aside0.mk ((by rw [hg]; exact (below_size (bl HB.out)) : w.heap.size ≤ gb108)); have GE108 := GW108; replace HB := Aside0.mk (below_step (bl HB.out) hb); clear hb hbox hg; obtain ⟨hcz15_0, hcz15_1, hcz15_2, hcz15_3, hcz15_4, hcz15_5⟩ := Go.Proofs.YtaojbcplmdjfnaaDoorW.PrintWords.c6 BK108.out; obtain ⟨hfz15_0, hfz15_1, hfz15_2, hfz15_3, hfz15_4, hfz15_5⟩ := f6 BK108.out)); try go_wp2_with (first | ((with_reducible refine gate_dst (N := 1) rfl ?_); refine box_event ?hg (N := 1) ?hd (cs := #[.int .i64 a0_0, .int .i64 a0_1, .int .i64 a0_2, .int .i64 a0_3, .string a0_4, .string a0_5]) (t := 26) ?hr ?_; (case hd => rfl); (case hg => rfl); (case hr => first | (go_simp; done) | (go_simp; rfl)); intro gb108 hg w14 hbox hb; have BK108 := Aside0.mk (hbox); have GW108 := Aside0.mk ((by rw [hg]; exact (below_size (bl HB.out)) : w.heap.size ≤ gb108)); have GE108 := GW108; replace HB := Aside0.mk (below_step (bl HB.out) hb); clear hb hbox hg; obtain ⟨hcz15_0, hcz15_1, hcz15_2, hcz15_3, hcz15_4, hcz15_5⟩ := Go.Proofs.YtaojbcplmdjfnaaDoorW.PrintWords.c6 BK108.out; obtain ⟨hfz15_0, hfz15_1, hfz15_2, hfz15_3, hfz15_4, hfz15_5⟩ := f6 BK108.out)))
      go_ret2
      exact ⟨by first | rfl | (simp [errW_none, errW_some] <;> rfl) | (simp only [← hji2, ← hji5]; first | rfl | (simp [errW_none, errW_some] <;> rfl)) | (simp [*, errW_none, errW_some] <;> rfl), by repeat (first | (with_reducible first | exact HB.out | apply below_alloc | apply pw_below_drewN | apply below_drew1 | refine below_set ?_ GE108.out) | exact HB.out)⟩
    ·rw [if_neg c7] at H
     exact absurd H (by simp)
   ·rw [if_neg c6] at H
    exact absurd H (by simp)
  ·rw [if_neg c4] at H
   exact absurd H (by simp)
 ·rw [if_neg c3] at H
  exact absurd H (by simp)
end Go.Proofs.YtaojbcplmdjfnaaDoor.Pr

namespace Go.Proofs.YtaojbcplmdjfnaaDoor.Pr
open Go.RowKit Go.Proofs.YtaojbcplmdjfnaaDoorW.PrintWords Go.Proofs.YtaojbcplmdjfnaaDoorW.PrintLast Go.Proofs.YtaojbcplmdjfnaaDoorW.PrintMore
attribute [local go_sem] max2_int min2_int max_two min_two max_three min_three max_four min_four   -- for this text's walks alone
set_option linter.unusedVariables false
set_option linter.unusedSimpArgs false
attribute [local go_sem high] eqA26
def weld_Valid.j0 : Nat → Bool → Int → Int → Int → Int → ByteArray → ByteArray → Int → Int → Int → Int → Option (Bool)
 | 0, _, _, _, _, _, _, _, _, _, _, _ => none
 | k + 1, x36, x110000, x110001, x110002, x110003, x110004, x110005, x111000, x111001, x111002, x111003 => if x36 = true then (some false) else (if x111000 ≤ 6 then ((weld_short.f x110000 x110001 x110002 x110003 x110004 x110005).bind fun bt111 => (if bt111.2 = true then (if bt111.1.size ≤ 9223372036854775807 then ((weld_Of.f (bytesOf bt111.1)).bind fun bt116 => (some ((x110000 == bt116.1 && (x110001 == bt116.2.1 && (x110002 == bt116.2.2.1 && (x110003 == bt116.2.2.2.1)))) && (x110004.toList == bt116.2.2.2.2.1.toList && (x110005.toList == bt116.2.2.2.2.2.toList))))) else (none)) else (some false))) else (if x111001 ≥ 0 then (if x111001 ≤ x111000 then (if x111002 ≥ 0 then (if x111002 ≤ x111000 then (if (wrap64 (x111002 - x111001)) ≥ 0 then (if (wrap64 (x111001 - (wrap64 (x111002 - x111001)))) ≥ 0 then (if (wrap64 (x111000 - (wrap64 (4 * (wrap64 (x111002 - x111001)))))) ≥ (wrap64 (x111001 - (wrap64 (x111002 - x111001)))) then (if (wrap64 (x111000 - (wrap64 (4 * (wrap64 (x111002 - x111001)))))) ≤ (wrap64 (3 * (wrap64 (x111001 - (wrap64 (x111002 - x111001)))))) then (if x111003 ≥ 0 then (some (decide (x111003 ≤ x111001))) else (some false)) else (some false)) else (some false)) else (some false)) else (some false)) else (some false)) else (some false)) else (some false)) else (some false)))
def weld_Valid.f (k : Nat) (a0_0 : Int) (a0_1 : Int) (a0_2 : Int) (a0_3 : Int) (a0_4 : ByteArray) (a0_5 : ByteArray) : Option (Bool) := if a0_0 < 0 then (weld_Valid.j0 k true a0_0 a0_1 a0_2 a0_3 a0_4 a0_5 a0_0 a0_1 a0_2 a0_3) else (if a0_0 > 268435456 then (weld_Valid.j0 k true a0_0 a0_1 a0_2 a0_3 a0_4 a0_5 a0_0 a0_1 a0_2 a0_3) else (if (a0_4.size : Int) = (mn 3 a0_0) then (weld_Valid.j0 k ((a0_5.size : Int) != (mn 3 a0_0)) a0_0 a0_1 a0_2 a0_3 a0_4 a0_5 a0_0 a0_1 a0_2 a0_3) else (weld_Valid.j0 k true a0_0 a0_1 a0_2 a0_3 a0_4 a0_5 a0_0 a0_1 a0_2 a0_3)))
def weld_Valid.T6 : Bool × List (List Nat × List Nat) := (true, [([], []), ([0], [0]), ([1], [1]), ([1], [1]), ([3, 1], [1, 3]), ([4, 1, 1], [1, 4]), ([2, 5, 1], [1, 2, 5]), ([1, 6], [1, 6]), ([7, 5, 0, 1, 2, 3, 4, 5, 6, 7], [7])])
def weld_Valid.B6 : List Nat := [0, 1, 3, 3, 11, 27, 63, 127, 255]
theorem weld_Valid.tab6 : rtab .any (opsOf Tryd.f11 6) = weld_Valid.T6 := by kernel_rfl
theorem weld_Valid.bits6 : waitsOk weld_Valid.T6.2 weld_Valid.B6 = true := by kernel_rfl
set_option maxHeartbeats 8000000 in
set_option maxRecDepth 100000 in
theorem weld_Valid.calls (k : Nat) (a0_0 : Int) (a0_1 : Int) (a0_2 : Int) (a0_3 : Int) (a0_4 : ByteArray) (a0_5 : ByteArray) (r : Bool) (w : World) (hG : Glob.Globs w) (h : weld_Valid.f k a0_0 a0_1 a0_2 a0_3 a0_4 a0_5 = some r) :
  Calls Tryd.prog 11 #[.agg #[.int .i64 a0_0, .int .i64 a0_1, .int .i64 a0_2, .int .i64 a0_3, .string a0_4, .string a0_5]] w fun e w' => e = .returned (.bool r) ∧ Below w.heap.size w w' := by
 have hu26 := Tryd.underlying26
 have hu24 := Tryd.underlying24
 have HG := Aside0.mk hG; clear hG
 have HB := Aside0.mk (Below.refl w.heap.size w)
 have H : (if a0_0 < 0 then (weld_Valid.j0 k true a0_0 a0_1 a0_2 a0_3 a0_4 a0_5 a0_0 a0_1 a0_2 a0_3) else (if a0_0 > 268435456 then (weld_Valid.j0 k true a0_0 a0_1 a0_2 a0_3 a0_4 a0_5 a0_0 a0_1 a0_2 a0_3) else (if (a0_4.size : Int) = (mn 3 a0_0) then (weld_Valid.j0 k ((a0_5.size : Int) != (mn 3 a0_0)) a0_0 a0_1 a0_2 a0_3 a0_4 a0_5 a0_0 a0_1 a0_2 a0_3) else (weld_Valid.j0 k true a0_0 a0_1 a0_2 a0_3 a0_4 a0_5 a0_0 a0_1 a0_2 a0_3)))) = some r := h
 clear h; have HC2 := Aside0.mk H; clear H
 go_enter Tryd.func11, Tryd.ntmps11
 go_upto_region 2 with (first | ((with_reducible refine gate_dst (N := 1) rfl ?_); (try (refine gate_guard (by rfl) ?_; dsimp only)); refine box_event ?hg (N := 1) ?hd (cs := #[.int .i64 a0_0, .int .i64 a0_1, .int .i64 a0_2, .int .i64 a0_3, .string a0_4, .string a0_5]) (t := 26) ?hr ?_; (case hd => rfl); (case hg => rfl); (case hr => first | (go_simp; done) | (go_simp; rfl)); intro gb109 hg w3 hbox hb; have BK109 := Aside0.mk (hbox); have GW109 := Aside0.mk ((by rw [hg]; exact (below_size (bl HB.out)) : w.heap.size ≤ gb109)); have GE109 := GW109; replace HB := Aside0.mk (below_step (bl HB.out) hb); clear hb hbox hg; obtain ⟨hcz4_0, hcz4_1, hcz4_2, hcz4_3, hcz4_4, hcz4_5⟩ := c6 BK109.out; obtain ⟨hfz4_0, hfz4_1, hfz4_2, hfz4_3, hfz4_4, hfz4_5⟩ := f6 BK109.out) | ((with_reducible refine gate_dst (N := 3) rfl ?_); (try (refine gate_guard (by rfl) ?_; dsimp only)); refine box_event ?hg (N := 3) ?hd (cs := #[.int .i64 0, .int .i64 0, .int .i64 0, .int .i64 0]) (t := 24) ?hr ?_; (case hd => rfl); (case hg => rfl); (case hr => first | (go_simp; done) | (go_simp; rfl)); intro gb110 hg w5 hbox hb; have BK110 := Aside0.mk (hbox); have GW110 := Aside0.mk ((by rw [hg]; exact (below_size (by repeat (first | (with_reducible first | exact HB.out | apply below_alloc | apply pw_below_drewN | apply below_drew1 | refine below_set ?_ GE109.out) | exact HB.out))) : w.heap.size ≤ gb110)); have GE110 := GW110; replace HB := Aside0.mk (below_step (by repeat (first | (with_reducible first | exact HB.out | apply below_alloc | apply pw_below_drewN | apply below_drew1 | refine below_set ?_ GE109.out) | exact HB.out)) hb); obtain ⟨NB109_110, NB110_109⟩ := nbp hg (pl BK109.out); replace BK109 := Aside0.mk (blk_below (pl BK109.out) hb); clear hb hbox hg; have hnb6 := NB110_109.out; have hnc6 := NB109_110.out; obtain ⟨hcz7_0, hcz7_1, hcz7_2, hcz7_3⟩ := c4 BK110.out; obtain ⟨hfz7_0, hfz7_1, hfz7_2, hfz7_3⟩ := f4 BK110.out))
 (try simp only [Act.put, List.setIfInBounds_toArray, List.set_cons_zero, List.set_cons_succ])
 go_cut [36] (fun v36 wc => ∃ (kq : Nat) (x36_1 : Bool), v36 = .bool x36_1 ∧ Aside0 (weld_Valid.j0 kq x36_1 a0_0 a0_1 a0_2 a0_3 a0_4 a0_5 a0_0 a0_1 a0_2 a0_3 = some r) ∧ Aside0 (kq ≤ k) ∧ Aside0 (wc.heap[gb109]? = some (.cells #[.int .i64 a0_0, .int .i64 a0_1, .int .i64 a0_2, .int .i64 a0_3, .string a0_4, .string a0_5] 26 (0, 0))) ∧ Aside0 (wc.heap[gb110]? = some (.cells #[.int .i64 a0_0, .int .i64 a0_1, .int .i64 a0_2, .int .i64 a0_3] 24 (0, 0))) ∧ Aside0 (Below w.heap.size w wc))
 case first =>
  have H := HC2.out; clear HC2
  by_cases c8 : a0_0 < 0
  ·rw [if_pos c8] at H
   have c8b0 : decide (a0_0 < 0) = true := decide_eq_true c8
   clear c8
   (first | rw [c8b0] | (simp only [i64_w, i32_w]; rw [c8b0]) | skip)
   have H' := Aside0.mk H; clear H; have hnb9 := NB110_109.out; have hnc9 := NB109_110.out; obtain ⟨hcz10_0, hcz10_1, hcz10_2, hcz10_3⟩ := c4 BK110.out; obtain ⟨hfz10_0, hfz10_1, hfz10_2, hfz10_3⟩ := f4 BK110.out
   go_wp2
   go_meet
   case rel => exact ⟨_, (true), (by first | rfl | (simp; done) | (simp [*]; done)), H', ⟨by first | omega | exact Nat.le_refl _⟩, ⟨by refine pl ?_; refine blk_far ?_ NB109_110.out _; refine pl ?_; refine blk_far ?_ NB109_110.out _; refine pl ?_; refine blk_far ?_ NB109_110.out _; refine pl ?_; refine blk_far ?_ NB109_110.out _; refine pl ?_; exact BK109.out⟩, ⟨by refine pl ?_; refine blk_put (cs := #[.int .i64 a0_0, .int .i64 a0_1, .int .i64 a0_2, .int .i64 0]) ?_ 3 _ rfl; refine pl ?_; refine blk_put (cs := #[.int .i64 a0_0, .int .i64 a0_1, .int .i64 0, .int .i64 0]) ?_ 2 _ rfl; refine pl ?_; refine blk_put (cs := #[.int .i64 a0_0, .int .i64 0, .int .i64 0, .int .i64 0]) ?_ 1 _ rfl; refine pl ?_; refine blk_put (cs := #[.int .i64 0, .int .i64 0, .int .i64 0, .int .i64 0]) ?_ 0 _ rfl; refine pl ?_; exact BK110.out⟩, ⟨by repeat (first | (with_reducible first | exact HB.out | apply below_alloc | apply pw_below_drewN | apply below_drew1 | refine below_set ?_ GE109.out | refine below_set ?_ GE110.out) | exact HB.out)⟩⟩
  ·rw [if_neg c8] at H
   have c8b0 : decide (a0_0 < 0) = false := decide_eq_false c8
   clear c8
   (first | rw [c8b0] | (simp only [i64_w, i32_w]; rw [c8b0]) | skip)
   by_cases c11 : a0_0 > 268435456
   ·rw [if_pos c11] at H
    have c11b0 : decide (268435456 < a0_0) = true := decide_eq_true c11
    clear c11; have H' := Aside0.mk H; clear H; have hnb12 := NB110_109.out; have hnc12 := NB109_110.out; obtain ⟨hcz13_0, hcz13_1, hcz13_2, hcz13_3⟩ := c4 BK110.out; obtain ⟨hfz13_0, hfz13_1, hfz13_2, hfz13_3⟩ := f4 BK110.out
    go_wp2
    go_meet
    case rel => exact ⟨_, (true), (by first | rfl | (simp; done) | (simp [*]; done)), H', ⟨by first | omega | exact Nat.le_refl _⟩, ⟨by refine pl ?_; refine blk_far ?_ NB109_110.out _; refine pl ?_; refine blk_far ?_ NB109_110.out _; refine pl ?_; refine blk_far ?_ NB109_110.out _; refine pl ?_; refine blk_far ?_ NB109_110.out _; refine pl ?_; exact BK109.out⟩, ⟨by refine pl ?_; refine blk_put (cs := #[.int .i64 a0_0, .int .i64 a0_1, .int .i64 a0_2, .int .i64 0]) ?_ 3 _ rfl; refine pl ?_; refine blk_put (cs := #[.int .i64 a0_0, .int .i64 a0_1, .int .i64 0, .int .i64 0]) ?_ 2 _ rfl; refine pl ?_; refine blk_put (cs := #[.int .i64 a0_0, .int .i64 0, .int .i64 0, .int .i64 0]) ?_ 1 _ rfl; refine pl ?_; refine blk_put (cs := #[.int .i64 0, .int .i64 0, .int .i64 0, .int .i64 0]) ?_ 0 _ rfl; refine pl ?_; exact BK110.out⟩, ⟨by repeat (first | (with_reducible first | exact HB.out | apply below_alloc | apply pw_below_drewN | apply below_drew1 | refine below_set ?_ GE109.out | refine below_set ?_ GE110.out) | exact HB.out)⟩⟩
   ·rw [if_neg c11] at H
    have c11b0 : decide (268435456 < a0_0) = false := decide_eq_false c11
    clear c11
    obtain ⟨ji14, hji14⟩ : ∃ j_ : Int, (mn 3 a0_0) = j_ := ⟨_, rfl⟩
    replace H : (if (a0_4.size : Int) = (ji14) then (weld_Valid.j0 k ((a0_5.size : Int) != (ji14)) a0_0 a0_1 a0_2 a0_3 a0_4 a0_5 a0_0 a0_1 a0_2 a0_3) else (weld_Valid.j0 k true a0_0 a0_1 a0_2 a0_3 a0_4 a0_5 a0_0 a0_1 a0_2 a0_3)) = some r := by first | (rw [hji14] at H; exact H) | (simp only [hji14] at H ⊢; exact H)
    (try (have hji14h : ji14 ≤ 3 := by (rw [← hji14]; unfold mn; (repeat' split) <;> omega)))
    (try (have hji14g : ji14 ≤ 64 := by omega))
    have hji14_ : (if a0_0 < 3 then a0_0 else 3) = ji14 := hji14
    by_cases c15 : (a0_4.size : Int) = (ji14)
    ·rw [if_pos c15] at H
     have c15b0 : ((a0_4.size : Int) == (ji14)) = true := beq_iff_eq.mpr c15
     have c15b1 : ((a0_4.size : Int) != (ji14)) = false := bne_eq_false_iff_eq.mpr c15
     clear c15; have H' := Aside0.mk H; clear H; have hnb17 := NB110_109.out; have hnc17 := NB109_110.out; obtain ⟨hcz18_0, hcz18_1, hcz18_2, hcz18_3⟩ := c4 BK110.out; obtain ⟨hfz18_0, hfz18_1, hfz18_2, hfz18_3⟩ := f4 BK110.out; obtain ⟨hcz19_0, hcz19_1, hcz19_2, hcz19_3, hcz19_4, hcz19_5⟩ := c6 BK109.out; obtain ⟨hfz19_0, hfz19_1, hfz19_2, hfz19_3, hfz19_4, hfz19_5⟩ := f6 BK109.out
     go_wp2
     go_meet
     case rel => exact ⟨_, (((a0_5.size : Int) != (ji14))), (by first | rfl | (simp; done) | (simp only [← hji14] <;> (first | rfl | simp)) | (simp [*]; done)), H', ⟨by first | omega | exact Nat.le_refl _⟩, ⟨by refine pl ?_; refine blk_far ?_ NB109_110.out _; refine pl ?_; refine blk_far ?_ NB109_110.out _; refine pl ?_; refine blk_far ?_ NB109_110.out _; refine pl ?_; refine blk_far ?_ NB109_110.out _; refine pl ?_; exact BK109.out⟩, ⟨by refine pl ?_; refine blk_put (cs := #[.int .i64 a0_0, .int .i64 a0_1, .int .i64 a0_2, .int .i64 0]) ?_ 3 _ rfl; refine pl ?_; refine blk_put (cs := #[.int .i64 a0_0, .int .i64 a0_1, .int .i64 0, .int .i64 0]) ?_ 2 _ rfl; refine pl ?_; refine blk_put (cs := #[.int .i64 a0_0, .int .i64 0, .int .i64 0, .int .i64 0]) ?_ 1 _ rfl; refine pl ?_; refine blk_put (cs := #[.int .i64 0, .int .i64 0, .int .i64 0, .int .i64 0]) ?_ 0 _ rfl; refine pl ?_; exact BK110.out⟩, ⟨by repeat (first | (with_reducible first | exact HB.out | apply below_alloc | apply pw_below_drewN | apply below_drew1 | refine below_set ?_ GE109.out | refine below_set ?_ GE110.out) | exact HB.out)⟩⟩
    ·rw [if_neg c15] at H
     have c15b0 : ((a0_4.size : Int) == (ji14)) = false := beq_eq_false_iff_ne.mpr c15
     have c15b1 : ((a0_4.size : Int) != (ji14)) = true := bne_iff_ne.mpr c15
     have H' := Aside0.mk H; clear H; have hnb20 := NB110_109.out; have hnc20 := NB109_110.out; obtain ⟨hcz21_0, hcz21_1, hcz21_2, hcz21_3⟩ := c4 BK110.out; obtain ⟨hfz21_0, hfz21_1, hfz21_2, hfz21_3⟩ := f4 BK110.out; obtain ⟨hcz22_0, hcz22_1, hcz22_2, hcz22_3, hcz22_4, hcz22_5⟩ := c6 BK109.out; obtain ⟨hfz22_0, hfz22_1, hfz22_2, hfz22_3, hfz22_4, hfz22_5⟩ := f6 BK109.out
     go_wp2
     go_meet
     case rel => exact ⟨_, (true), (by first | rfl | (simp; done) | (simp [*]; done)), H', ⟨by first | omega | exact Nat.le_refl _⟩, ⟨by refine pl ?_; refine blk_far ?_ NB109_110.out _; refine pl ?_; refine blk_far ?_ NB109_110.out _; refine pl ?_; refine blk_far ?_ NB109_110.out _; refine pl ?_; refine blk_far ?_ NB109_110.out _; refine pl ?_; exact BK109.out⟩, ⟨by refine pl ?_; refine blk_put (cs := #[.int .i64 a0_0, .int .i64 a0_1, .int .i64 a0_2, .int .i64 0]) ?_ 3 _ rfl; refine pl ?_; refine blk_put (cs := #[.int .i64 a0_0, .int .i64 a0_1, .int .i64 0, .int .i64 0]) ?_ 2 _ rfl; refine pl ?_; refine blk_put (cs := #[.int .i64 a0_0, .int .i64 0, .int .i64 0, .int .i64 0]) ?_ 1 _ rfl; refine pl ?_; refine blk_put (cs := #[.int .i64 0, .int .i64 0, .int .i64 0, .int .i64 0]) ?_ 0 _ rfl; refine pl ?_; exact BK110.out⟩, ⟨by repeat (first | (with_reducible first | exact HB.out | apply below_alloc | apply pw_below_drewN | apply below_drew1 | refine below_set ?_ GE109.out | refine below_set ?_ GE110.out) | exact HB.out)⟩⟩
 case rest =>
  clear HC2; (try clear c1); (try clear c2); (try clear p2); (try clear c6); (try clear c8); (try clear c8b0); (try clear c9); (try clear c11); (try clear c11b0); (try clear c12); (try clear c15); (try clear c15b0); (try clear c15b1); (try clear c16); (try clear c16b0); (try clear c17); (try clear c20); (try clear hcz10_0); (try clear hcz10_1); (try clear hcz10_2); (try clear hcz10_3); (try clear hcz13_0); (try clear hcz13_1); (try clear hcz13_2); (try clear hcz13_3); (try clear hcz18_0); (try clear hcz18_1); (try clear hcz18_2); (try clear hcz18_3); (try clear hcz19_0); (try clear hcz19_1); (try clear hcz19_2); (try clear hcz19_3); (try clear hcz19_4); (try clear hcz19_5); (try clear hcz21_0); (try clear hcz21_1); (try clear hcz21_2); (try clear hcz21_3); (try clear hcz22_0); (try clear hcz22_1); (try clear hcz22_2); (try clear hcz22_3); (try clear hcz22_4); (try clear hcz22_5); (try clear hcz4_0); (try clear hcz4_1); (try clear hcz4_2); (try clear hcz4_3); (try clear hcz4_4); (try clear hcz4_5); (try clear hcz7_0); (try clear hcz7_1); (try clear hcz7_2); (try clear hcz7_3); (try clear hfz10_0); (try clear hfz10_1); (try clear hfz10_2); (try clear hfz10_3); (try clear hfz13_0); (try clear hfz13_1); (try clear hfz13_2); (try clear hfz13_3); (try clear hfz18_0); (try clear hfz18_1); (try clear hfz18_2); (try clear hfz18_3); (try clear hfz19_0); (try clear hfz19_1); (try clear hfz19_2); (try clear hfz19_3); (try clear hfz19_4); (try clear hfz19_5); (try clear hfz21_0); (try clear hfz21_1); (try clear hfz21_2); (try clear hfz21_3); (try clear hfz22_0); (try clear hfz22_1); (try clear hfz22_2); (try clear hfz22_3); (try clear hfz22_4); (try clear hfz22_5); (try clear hfz4_0); (try clear hfz4_1); (try clear hfz4_2); (try clear hfz4_3); (try clear hfz4_4); (try clear hfz4_5); (try clear hfz7_0); (try clear hfz7_1); (try clear hfz7_2); (try clear hfz7_3)
  obtain ⟨kq, x36_1, rfl, HA, HJ1, BK109, BK110, HB⟩ := hcut
  cases kq with
  | zero => exact absurd HA.out (by simp [weld_Valid.j0])
  | succ kj1 =>
   have H := HA.out; clear HA
   simp only [weld_Valid.j0] at H
   by_cases c23 : x36_1 = true
   ·subst c23
    have H1 : (some false) = some r := by rw [if_pos rfl] at H; exact H
    clear H; have H := H1; clear H1
    obtain rfl := Option.some.inj H
    go_wp2
    go_ret
    exact ⟨by first | rfl | (simp [errW_none, errW_some] <;> rfl) | (simp [*, errW_none, errW_some] <;> rfl), by repeat (first | (with_reducible first | exact HB.out | apply below_alloc | apply pw_below_drewN | apply below_drew1 | refine below_set ?_ GE109.out | refine below_set ?_ GE110.out) | exact HB.out)⟩
   ·replace c23 := Bool.eq_false_iff.mpr c23
    subst c23
    have H1 : (if a0_0 ≤ 6 then ((weld_short.f a0_0 a0_1 a0_2 a0_3 a0_4 a0_5).bind fun bt111 => (if bt111.2 = true then (if bt111.1.size ≤ 9223372036854775807 then ((weld_Of.f (bytesOf bt111.1)).bind fun bt116 => (some ((a0_0 == bt116.1 && (a0_1 == bt116.2.1 && (a0_2 == bt116.2.2.1 && (a0_3 == bt116.2.2.2.1)))) && (a0_4.toList == bt116.2.2.2.2.1.toList && (a0_5.toList == bt116.2.2.2.2.2.toList))))) else (none)) else (some false))) else (if a0_1 ≥ 0 then (if a0_1 ≤ a0_0 then (if a0_2 ≥ 0 then (if a0_2 ≤ a0_0 then (if (wrap64 (a0_2 - a0_1)) ≥ 0 then (if (wrap64 (a0_1 - (wrap64 (a0_2 - a0_1)))) ≥ 0 then (if (wrap64 (a0_0 - (wrap64 (4 * (wrap64 (a0_2 - a0_1)))))) ≥ (wrap64 (a0_1 - (wrap64 (a0_2 - a0_1)))) then (if (wrap64 (a0_0 - (wrap64 (4 * (wrap64 (a0_2 - a0_1)))))) ≤ (wrap64 (3 * (wrap64 (a0_1 - (wrap64 (a0_2 - a0_1)))))) then (if a0_3 ≥ 0 then (some (decide (a0_3 ≤ a0_1))) else (some false)) else (some false)) else (some false)) else (some false)) else (some false)) else (some false)) else (some false)) else (some false)) else (some false))) = some r := by rw [if_neg (show ¬ (false = true) by decide)] at H; exact H
    clear H; have H := H1; clear H1
    by_cases c24 : a0_0 ≤ 6
    ·rw [if_pos c24] at H
     have c24b0 : decide (a0_0 ≤ 6) = true := decide_eq_true c24
     clear c24
     replace H := Option.bind_eq_some_iff.mp H
     obtain ⟨⟨t111, t112⟩, A250, H⟩ := H
     have A25 := Aside0.mk A250; clear A250
     by_cases c26 : t112 = true
     ·subst c26
      have H1 : (if t111.size ≤ 9223372036854775807 then ((weld_Of.f (bytesOf t111)).bind fun bt116 => (some ((a0_0 == bt116.1 && (a0_1 == bt116.2.1 && (a0_2 == bt116.2.2.1 && (a0_3 == bt116.2.2.2.1)))) && (a0_4.toList == bt116.2.2.2.2.1.toList && (a0_5.toList == bt116.2.2.2.2.2.toList))))) else (none)) = some r := by rw [if_pos rfl] at H; exact H
      clear H; have H := H1; clear H1
      by_cases c27 : t111.size ≤ 9223372036854775807
      ·rw [if_pos c27] at H
       have c27b0 := eq_true c27
       have c27b1 : decide (t111.size ≤ 9223372036854775807) = true := decide_eq_true c27
       try have c27b2 : (9223372036854775807 < t111.size) = False := eq_false (Nat.not_lt.2 c27)
       clear c27
       obtain ⟨y113, hy113⟩ : ∃ y_ : List Int, y_ = (bytesOf t111) := ⟨_, rfl⟩
       replace H : ((weld_Of.f y113).bind fun bt116 => (some ((a0_0 == bt116.1 && (a0_1 == bt116.2.1 && (a0_2 == bt116.2.2.1 && (a0_3 == bt116.2.2.2.1)))) && (a0_4.toList == bt116.2.2.2.2.1.toList && (a0_5.toList == bt116.2.2.2.2.2.toList))))) = some r := by first | (rw [hy113]; with_reducible exact H) | (have H2_ := (Option.bind_some _ _).symm.trans H; rw [hy113]; with_reducible exact H2_) | (have H2_ := (Option.bind_some _ _).symm.trans H; with_reducible exact H2_) | with_reducible exact H | (rw [hy113]; exact H) | exact H
       have Ny113 := Aside0.mk hy113; clear hy113
       replace H := Option.bind_eq_some_iff.mp H
       obtain ⟨⟨t116, t117, t118, t119, t120, t121⟩, A280, H⟩ := H
       have A28 := Aside0.mk A280; clear A280
       obtain rfl := Option.some.inj H
       have hnb29 := NB110_109.out; have hnc29 := NB109_110.out; obtain ⟨hcz30_0, hcz30_1, hcz30_2, hcz30_3⟩ := c4 BK110.out; obtain ⟨hfz30_0, hfz30_1, hfz30_2, hfz30_3⟩ := f4 BK110.out; obtain ⟨hcz31_0, hcz31_1, hcz31_2, hcz31_3, hcz31_4, hcz31_5⟩ := c6 BK109.out; obtain ⟨hfz31_0, hfz31_1, hfz31_2, hfz31_3, hfz31_4, hfz31_5⟩ := f6 BK109.out
       try go_wp2_with (first | ((with_reducible refine gate_callee (f := 24) rfl ?_); refine goesL_ (some 42) rfl rfl Tryd.func24 (by kernel_rfl) rfl #[.agg #[.int .i64 a0_0, .int .i64 a0_1, .int .i64 a0_2, .int .i64 a0_3, .string a0_4, .string a0_5]] rfl (by (try simp only [List.map_toArray, List.map_cons, List.map_nil]); first | done | rfl | (simp only [List.length_drop, List.length_take]; rfl)) ?_; (with_reducible refine (weld_short.calls a0_0 a0_1 a0_2 a0_3 a0_4 a0_5 t111 true _ A25.out).mono ?_); rintro e w32 ⟨rfl, hb⟩; refine ⟨_, rfl, ?_⟩; replace BK109 := Aside0.mk (blk_below (pl BK109.out) hb); replace BK110 := Aside0.mk (blk_below (pl BK110.out) hb); replace HB := Aside0.mk (below_step (by repeat (first | (with_reducible first | exact HB.out | apply below_alloc | apply pw_below_drewN | apply below_drew1 | refine below_set ?_ GE109.out | refine below_set ?_ GE110.out) | exact HB.out)) hb); (try clear hb); (try clear hb2); (try clear hk); (try clear hi)))
       replace BK109 := Aside0.mk (blk_drew BK109.out); replace BK110 := Aside0.mk (blk_drew BK110.out); replace HB := Aside0.mk (below_drew1 HB.out)
       refine start_ (n := 9) (S := fun w' => w'.cell? ⟨gb109, 0, none⟩ = some (.int .i64 a0_0) ∧ w'.cell? ⟨gb109, 1, none⟩ = some (.int .i64 a0_1) ∧ w'.cell? ⟨gb109, 2, none⟩ = some (.int .i64 a0_2) ∧ w'.cell? ⟨gb109, 3, none⟩ = some (.int .i64 a0_3) ∧ w'.cell? ⟨gb109, 4, none⟩ = some (.string a0_4) ∧ w'.cell? ⟨gb109, 5, none⟩ = some (.string a0_5)) (ds := []) #[false, false, false, false, false, false, false, false, false] (by kernel_rfl) rfl rfl ⟨(blk_cell BK109.out 0).trans rfl, (blk_cell BK109.out 1).trans rfl, (blk_cell BK109.out 2).trans rfl, (blk_cell BK109.out 3).trans rfl, (blk_cell BK109.out 4).trans rfl, (blk_cell BK109.out 5).trans rfl⟩ (fun hHeld => ?_); refine with_tabW weld_Valid.tab6 weld_Valid.bits6 (fun HT_ HW_ => ?_)
       generalize w32.drew = w33 at BK109 BK110 HB hHeld ⊢
       refine pure_ (i := 0) (N := some 45) (v := ?_) (a' := ?_) #[true, false, false, false, false, false, false, false, false] rfl rfl (any_of HT_.out (by kernel_rfl)) (fun _ _ _ h => h) (Or.inl ⟨by rfl, ?_⟩) ?_ ?_
       rotate_left
       ·intro w'
        go_simp
        with_reducible rfl
       rotate_left
       ·simp only [Act.put, List.setIfInBounds_toArray, List.set_cons_zero, List.set_cons_succ, i64_w, i32_w]
        rfl
       refine pure_ (i := 1) (N := some 46) (v := ?_) (a' := ?_) #[true, true, false, false, false, false, false, false, false] rfl rfl (any_of HT_.out (by kernel_rfl)) (fun _ _ _ h => h) (Or.inl ⟨by rfl, ?_⟩) ?_ ?_
       rotate_left
       ·intro w'
        go_simp
        with_reducible rfl
       rotate_left
       ·simp only [Act.put, List.setIfInBounds_toArray, List.set_cons_zero, List.set_cons_succ, i64_w, i32_w]
        rfl
       refine pure_ (i := 3) (N := some 48) (v := ?_) (a' := ?_) #[true, true, false, true, false, false, false, false, false] rfl rfl (any_of HT_.out (by kernel_rfl)) (fun _ _ _ h => h) (Or.inl ⟨by rfl, ?_⟩) ?_ ?_
       rotate_left
       ·intro w'
        go_simp
        with_reducible rfl
       rotate_left
       ·simp only [Act.put, List.setIfInBounds_toArray, List.set_cons_zero, List.set_cons_succ, i64_w, i32_w]
        rfl
       refine take_ (i := 2) (N := some 47) (v := ?_) (a' := ?_) #[true, true, true, true, false, false, false, false, false] rfl rfl (take_ofW HT_.out HW_.out (by kernel_rfl)) (fun _ _ _ h => h) (Or.inl ⟨by rfl, ?_⟩) hHeld ?_ ?_
       rotate_left
       ·rintro w' ⟨s0, s1, s2, s3, s4, s5⟩
        go_simp
        with_reducible rfl
       rotate_left
       ·simp only [Act.put, List.setIfInBounds_toArray, List.set_cons_zero, List.set_cons_succ, i64_w, i32_w]
        rfl
       refine one_ (i := 4) (N := some 49) #[true, true, true, true, true, false, false, false, false] rfl rfl (one_of HT_.out (by kernel_rfl)) (by decide) (fun K hK => ?_)
       refine Kd.V_bytes_step _ 5 ?hg (N := 49) ?hd (s := t111) (ok := fun k_ => w33.heap.size ≤ k_) rfl ?hx Tryd.underlying9 Tryd.underlying29 Tryd.underlying5 (Nat.le_refl _) (Below.refl _ _) (Nat.le_refl _) (of_decide_eq_true (by first | (with_reducible assumption) | assumption)) ?_; (case hd => rfl); (case hg => rfl); (case hx => first | rfl | (go_simp; done) | (go_simp; rfl))
       intro v114 w34 ho35 hb hg_ hnew_
       clear hg_ hnew_
       (first | rw [← Ny113.out] at ho35 | (simp only [Int.reduceToNat] at ho35; rw [← Ny113.out] at ho35))
       have HO115 := Aside0.mk (Kd.V_lower (Kd.V_mono (ok' := fun k_ => k_ ≠ gb109 ∧ k_ ≠ gb110) ho35 (fun k_ hk_ => ⟨(Kd.freshB (g := gb109) (o := .cells #[.int .i64 a0_0, .int .i64 a0_1, .int .i64 a0_2, .int .i64 a0_3, .string a0_4, .string a0_5] 26 (0, 0)) (pl BK109.out) k_ hk_), (Kd.freshB (g := gb110) (o := .cells #[.int .i64 a0_0, .int .i64 a0_1, .int .i64 a0_2, .int .i64 a0_3] 24 (0, 0)) (pl BK110.out) k_ hk_)⟩)) (below_size (by repeat (first | (with_reducible first | exact HB.out | apply below_alloc | apply pw_below_drewN | apply below_drew1 | refine below_set ?_ GE109.out | refine below_set ?_ GE110.out) | exact HB.out)))); replace BK109 := Aside0.mk (blk_below (pl BK109.out) hb); replace BK110 := Aside0.mk (blk_below (pl BK110.out) hb); replace HB := Aside0.mk (below_step (by repeat (first | (with_reducible first | exact HB.out | apply below_alloc | apply pw_below_drewN | apply below_drew1 | refine below_set ?_ GE109.out | refine below_set ?_ GE110.out) | exact HB.out)) hb); clear hb ho35
       obtain ⟨Ao36, co36, eo36⟩ := Kd.V_slice HO115.out
       (first | subst eo36 | (injection eo36 with f1_ f2_ f3_; have f4_ := f1_.symm; have f5_ := f3_.symm; clear f1_ f2_ f3_; subst f4_; subst f5_))
       refine hK.out _ _ ⟨(blk_cell BK109.out 0).trans rfl, (blk_cell BK109.out 1).trans rfl, (blk_cell BK109.out 2).trans rfl, (blk_cell BK109.out 3).trans rfl, (blk_cell BK109.out 4).trans rfl, (blk_cell BK109.out 5).trans rfl⟩ (fun hHeld => ?_)
       clear hK K
       refine norm_ (a' := ?_) ?_ ?_
       rotate_left
       ·show Act.put _ (some 49) _ = _
        simp only [Act.put, List.setIfInBounds_toArray, List.set_cons_zero, List.set_cons_succ, i64_w, i32_w]
        rfl
       refine one_ (i := 5) (N := some 50) #[true, true, true, true, true, true, false, false, false] rfl rfl (one_of HT_.out (by kernel_rfl)) (by decide) (fun K hK => ?_)
       refine goes_ Tryd.func12 (by kernel_rfl) rfl #[.slice Ao36 y113.length co36] (by rfl) rfl rfl (by (try simp only [List.map_toArray, List.map_cons, List.map_nil]); first | done | rfl | (simp only [List.length_drop, List.length_take]; rfl)) ?_
       with_reducible refine (weld_Of.calls _ _ y113 t116 t117 t118 t119 t120 t121 _ ?side1 ?side2 ?side3 A28.out).mono ?_
       (case side1 => first | (with_reducible exact HG.out) | exact Glob.Globs_below HG.out (by repeat (first | (with_reducible first | exact HB.out | apply below_alloc | apply pw_below_drewN | apply below_drew1 | refine below_set ?_ GE109.out | refine below_set ?_ GE110.out) | exact HB.out)))
       (case side2 => repeat (first | exact (Kd.V_reads' HO115.out).2.2 | (with_reducible refine Kd.C_alloc ?_ _) | (with_reducible refine Kd.C_drewN ?_ _) | (with_reducible refine Kd.C_drew ?_)))
       (case side3 => exact (Kd.V_reads' HO115.out).2.1)
       rintro e w37 ⟨rfl, hb⟩
       refine ⟨_, rfl, ?_⟩
       replace HO115 := Aside0.mk (Kd.V_below (by (with_reducible repeat (first | apply Kd.V_alloc | apply Kd.V_drewN | apply Kd.V_drew)); exact HO115.out) hb); replace BK109 := Aside0.mk (blk_below (pl BK109.out) hb); replace BK110 := Aside0.mk (blk_below (pl BK110.out) hb); replace HB := Aside0.mk (below_step (by repeat (first | (with_reducible first | exact HB.out | apply below_alloc | apply pw_below_drewN | apply below_drew1 | refine below_set ?_ GE109.out | refine below_set ?_ GE110.out) | exact HB.out)) hb)
       (try clear hb)
       (try clear hb2)
       (try clear hk)
       (try clear hi)
       refine hK.out _ _ ⟨(blk_cell BK109.out 0).trans rfl, (blk_cell BK109.out 1).trans rfl, (blk_cell BK109.out 2).trans rfl, (blk_cell BK109.out 3).trans rfl, (blk_cell BK109.out 4).trans rfl, (blk_cell BK109.out 5).trans rfl⟩ (fun hHeld => ?_)
       clear hK K
       refine norm_ (a' := ?_) ?_ ?_
       rotate_left
       ·show Act.put _ (some 50) _ = _
        simp only [Act.put, List.setIfInBounds_toArray, List.set_cons_zero, List.set_cons_succ, i64_w, i32_w]
        rfl
       refine pure_ (i := 6) (N := some 51) (v := ?_) (a' := ?_) #[true, true, true, true, true, true, true, false, false] rfl rfl (any_of HT_.out (by kernel_rfl)) (fun _ _ _ h => h) (Or.inl ⟨by rfl, ?_⟩) ?_ ?_
       rotate_left
       ·intro w'
        go_simp
        with_reducible rfl
       rotate_left
       ·simp only [Act.put, List.setIfInBounds_toArray, List.set_cons_zero, List.set_cons_succ, i64_w, i32_w]
        rfl
       refine pure_ (i := 7) (N := some 52) (v := ?_) (a' := ?_) #[true, true, true, true, true, true, true, true, false] rfl rfl (any_of HT_.out (by kernel_rfl)) (fun _ _ _ h => h) (Or.inl ⟨by rfl, ?_⟩) ?_ ?_
       rotate_left
       ·intro w'
        go_simp
        with_reducible rfl
       rotate_left
       ·simp only [Act.put, List.setIfInBounds_toArray, List.set_cons_zero, List.set_cons_succ, i64_w, i32_w]
        rfl
       refine pure_ (i := 8) (N := some 2) (v := ?_) (a' := ?_) #[true, true, true, true, true, true, true, true, true] rfl rfl (any_of HT_.out (by kernel_rfl)) (fun _ _ _ h => h) (Or.inl ⟨by rfl, ?_⟩) ?_ ?_
       rotate_left
       ·intro w'
        go_simp
        with_reducible rfl
       rotate_left
       ·simp only [Act.put, List.setIfInBounds_toArray, List.set_cons_zero, List.set_cons_succ, i64_w, i32_w]
        rfl
       refine done_ (done_of HT_.out (by kernel_rfl)) ?_
       try go_wp2
       go_ret
       exact ⟨by first | rfl | (simp [errW_none, errW_some] <;> rfl) | (simp [*, errW_none, errW_some] <;> rfl), by repeat (first | (with_reducible first | exact HB.out | apply below_alloc | apply pw_below_drewN | apply below_drew1 | refine below_set ?_ GE109.out | refine below_set ?_ GE110.out) | exact HB.out)⟩
      ·rw [if_neg c27] at H
       exact absurd H (by simp)
     ·replace c26 := Bool.eq_false_iff.mpr c26
      subst c26
      have H1 : (some false) = some r := by rw [if_neg (show ¬ (false = true) by decide)] at H; exact H
      clear H; have H := H1; clear H1
      obtain rfl := Option.some.inj H
      have hnb38 := NB110_109.out; have hnc38 := NB109_110.out; obtain ⟨hcz39_0, hcz39_1, hcz39_2, hcz39_3⟩ := c4 BK110.out; obtain ⟨hfz39_0, hfz39_1, hfz39_2, hfz39_3⟩ := f4 BK110.out; obtain ⟨hcz40_0, hcz40_1, hcz40_2, hcz40_3, hcz40_4, hcz40_5⟩ := c6 BK109.out; obtain ⟨hfz40_0, hfz40_1, hfz40_2, hfz40_3, hfz40_4, hfz40_5⟩ := f6 BK109.out
      try go_wp2_with (first | ((with_reducible refine gate_callee (f := 24) rfl ?_); refine goesL_ (some 42) rfl rfl Tryd.func24 (by kernel_rfl) rfl #[.agg #[.int .i64 a0_0, .int .i64 a0_1, .int .i64 a0_2, .int .i64 a0_3, .string a0_4, .string a0_5]] rfl (by (try simp only [List.map_toArray, List.map_cons, List.map_nil]); first | done | rfl | (simp only [List.length_drop, List.length_take]; rfl)) ?_; (with_reducible refine (weld_short.calls a0_0 a0_1 a0_2 a0_3 a0_4 a0_5 t111 false _ A25.out).mono ?_); rintro e w41 ⟨rfl, hb⟩; refine ⟨_, rfl, ?_⟩; replace BK109 := Aside0.mk (blk_below (pl BK109.out) hb); replace BK110 := Aside0.mk (blk_below (pl BK110.out) hb); replace HB := Aside0.mk (below_step (by repeat (first | (with_reducible first | exact HB.out | apply below_alloc | apply pw_below_drewN | apply below_drew1 | refine below_set ?_ GE109.out | refine below_set ?_ GE110.out) | exact HB.out)) hb); (try clear hb); (try clear hb2); (try clear hk); (try clear hi)))
      replace BK109 := Aside0.mk (blk_drew BK109.out); replace BK110 := Aside0.mk (blk_drew BK110.out); replace HB := Aside0.mk (below_drew1 HB.out)
      refine start_ (n := 9) (S := fun w' => True) (ds := []) #[false, false, false, false, false, false, false, false, false] (by kernel_rfl) rfl rfl trivial (fun hHeld => ?_); refine with_tabW weld_Valid.tab6 weld_Valid.bits6 (fun HT_ HW_ => ?_)
      generalize w41.drew = w42 at BK109 BK110 HB hHeld ⊢
      refine pure_ (i := 0) (N := some 45) (v := ?_) (a' := ?_) #[true, false, false, false, false, false, false, false, false] rfl rfl (any_of HT_.out (by kernel_rfl)) (fun _ _ _ h => h) (Or.inl ⟨by rfl, ?_⟩) ?_ ?_
      rotate_left
      ·intro w'
       go_simp
       with_reducible rfl
      rotate_left
      ·simp only [Act.put, List.setIfInBounds_toArray, List.set_cons_zero, List.set_cons_succ, i64_w, i32_w]
       rfl
      refine pure_ (i := 1) (N := some 46) (v := ?_) (a' := ?_) #[true, true, false, false, false, false, false, false, false] rfl rfl (any_of HT_.out (by kernel_rfl)) (fun _ _ _ h => h) (Or.inl ⟨by rfl, ?_⟩) ?_ ?_
      rotate_left
      ·intro w'
       go_simp
       with_reducible rfl
      rotate_left
      ·simp only [Act.put, List.setIfInBounds_toArray, List.set_cons_zero, List.set_cons_succ, i64_w, i32_w]
       rfl
      refine pure_ (i := 2) (N := some 47) (v := undef) (a' := ?_) #[true, true, true, false, false, false, false, false, false] rfl rfl (any_of HT_.out (by kernel_rfl)) (fun _ _ _ h => h) (Or.inr ⟨by rfl, rfl⟩) ?_ ?_
      rotate_left
      ·simp only [Act.put, List.setIfInBounds_toArray, List.set_cons_zero, List.set_cons_succ, i64_w, i32_w]
       rfl
      refine pure_ (i := 3) (N := some 48) (v := undef) (a' := ?_) #[true, true, true, true, false, false, false, false, false] rfl rfl (any_of HT_.out (by kernel_rfl)) (fun _ _ _ h => h) (Or.inr ⟨by rfl, rfl⟩) ?_ ?_
      rotate_left
      ·simp only [Act.put, List.setIfInBounds_toArray, List.set_cons_zero, List.set_cons_succ, i64_w, i32_w]
       rfl
      refine pure_ (i := 4) (N := some 49) (v := undef) (a' := ?_) #[true, true, true, true, true, false, false, false, false] rfl rfl (any_of HT_.out (by kernel_rfl)) (fun _ _ _ h => h) (Or.inr ⟨by rfl, rfl⟩) ?_ ?_
      rotate_left
      ·simp only [Act.put, List.setIfInBounds_toArray, List.set_cons_zero, List.set_cons_succ, i64_w, i32_w]
       rfl
      refine pure_ (i := 5) (N := some 50) (v := undef) (a' := ?_) #[true, true, true, true, true, true, false, false, false] rfl rfl (any_of HT_.out (by kernel_rfl)) (fun _ _ _ h => h) (Or.inr ⟨by rfl, rfl⟩) ?_ ?_
      rotate_left
      ·simp only [Act.put, List.setIfInBounds_toArray, List.set_cons_zero, List.set_cons_succ, i64_w, i32_w]
       rfl
      refine pure_ (i := 6) (N := some 51) (v := undef) (a' := ?_) #[true, true, true, true, true, true, true, false, false] rfl rfl (any_of HT_.out (by kernel_rfl)) (fun _ _ _ h => h) (Or.inr ⟨by rfl, rfl⟩) ?_ ?_
      rotate_left
      ·simp only [Act.put, List.setIfInBounds_toArray, List.set_cons_zero, List.set_cons_succ, i64_w, i32_w]
       rfl
      refine pure_ (i := 7) (N := some 52) (v := ?_) (a' := ?_) #[true, true, true, true, true, true, true, true, false] rfl rfl (any_of HT_.out (by kernel_rfl)) (fun _ _ _ h => h) (Or.inl ⟨by rfl, ?_⟩) ?_ ?_
      rotate_left
      ·intro w'
       go_simp
       with_reducible rfl
      rotate_left
      ·simp only [Act.put, List.setIfInBounds_toArray, List.set_cons_zero, List.set_cons_succ, i64_w, i32_w]
       rfl
      refine pure_ (i := 8) (N := some 2) (v := ?_) (a' := ?_) #[true, true, true, true, true, true, true, true, true] rfl rfl (any_of HT_.out (by kernel_rfl)) (fun _ _ _ h => h) (Or.inl ⟨by rfl, ?_⟩) ?_ ?_
      rotate_left
      ·intro w'
       go_simp
       with_reducible rfl
      rotate_left
      ·simp only [Act.put, List.setIfInBounds_toArray, List.set_cons_zero, List.set_cons_succ, i64_w, i32_w]
       rfl
      refine done_ (done_of HT_.out (by kernel_rfl)) ?_
      try go_wp2
      go_ret
      exact ⟨by first | rfl | (simp [errW_none, errW_some] <;> rfl) | (simp [*, errW_none, errW_some] <;> rfl), by repeat (first | (with_reducible first | exact HB.out | apply below_alloc | apply pw_below_drewN | apply below_drew1 | refine below_set ?_ GE109.out | refine below_set ?_ GE110.out) | exact HB.out)⟩
    ·rw [if_neg c24] at H
     have c24b0 : decide (a0_0 ≤ 6) = false := decide_eq_false c24
     clear c24
     by_cases c43 : a0_1 ≥ 0
     ·rw [if_pos c43] at H
      have c43b0 : decide (0 ≤ a0_1) = true := decide_eq_true c43
      clear c43
      by_cases c44 : a0_1 ≤ a0_0
      ·rw [if_pos c44] at H
       have c44b0 : decide (a0_1 ≤ a0_0) = true := decide_eq_true c44
       clear c44
       by_cases c45 : a0_2 ≥ 0
       ·rw [if_pos c45] at H
        have c45b0 : decide (0 ≤ a0_2) = true := decide_eq_true c45
        clear c45
        by_cases c46 : a0_2 ≤ a0_0
        ·rw [if_pos c46] at H
         have c46b0 : decide (a0_2 ≤ a0_0) = true := decide_eq_true c46
         clear c46
         by_cases c47 : (wrap64 (a0_2 - a0_1)) ≥ 0
         ·rw [if_pos c47] at H
          have c47b0 : decide (0 ≤ (wrap64 (a0_2 - a0_1))) = true := decide_eq_true c47
          clear c47
          by_cases c48 : (wrap64 (a0_1 - (wrap64 (a0_2 - a0_1)))) ≥ 0
          ·rw [if_pos c48] at H
           have c48b0 : decide (0 ≤ (wrap64 (a0_1 - (wrap64 (a0_2 - a0_1))))) = true := decide_eq_true c48
           clear c48
           by_cases c49 : (wrap64 (a0_0 - (wrap64 (4 * (wrap64 (a0_2 - a0_1)))))) ≥ (wrap64 (a0_1 - (wrap64 (a0_2 - a0_1))))
           ·rw [if_pos c49] at H
            have c49b0 : decide ((wrap64 (a0_1 - (wrap64 (a0_2 - a0_1)))) ≤ (wrap64 (a0_0 - (wrap64 (4 * (wrap64 (a0_2 - a0_1))))))) = true := decide_eq_true c49
            clear c49
            by_cases c50 : (wrap64 (a0_0 - (wrap64 (4 * (wrap64 (a0_2 - a0_1)))))) ≤ (wrap64 (3 * (wrap64 (a0_1 - (wrap64 (a0_2 - a0_1))))))
            ·rw [if_pos c50] at H
             have c50b0 : decide ((wrap64 (a0_0 - (wrap64 (4 * (wrap64 (a0_2 - a0_1)))))) ≤ (wrap64 (3 * (wrap64 (a0_1 - (wrap64 (a0_2 - a0_1))))))) = true := decide_eq_true c50
             clear c50
             by_cases c51 : a0_3 ≥ 0
             ·rw [if_pos c51] at H
              have c51b0 : decide (0 ≤ a0_3) = true := decide_eq_true c51
              clear c51
              obtain rfl := Option.some.inj H
              have hnb52 := NB110_109.out; have hnc52 := NB109_110.out; obtain ⟨hcz53_0, hcz53_1, hcz53_2, hcz53_3⟩ := c4 BK110.out; obtain ⟨hfz53_0, hfz53_1, hfz53_2, hfz53_3⟩ := f4 BK110.out
              go_wp2
              go_ret
              exact ⟨by first | rfl | (simp [errW_none, errW_some] <;> rfl) | (simp [*, errW_none, errW_some] <;> rfl), by repeat (first | (with_reducible first | exact HB.out | apply below_alloc | apply pw_below_drewN | apply below_drew1 | refine below_set ?_ GE109.out | refine below_set ?_ GE110.out) | exact HB.out)⟩
             ·rw [if_neg c51] at H
              have c51b0 : decide (0 ≤ a0_3) = false := decide_eq_false c51
              clear c51
              obtain rfl := Option.some.inj H
              have hnb54 := NB110_109.out; have hnc54 := NB109_110.out; obtain ⟨hcz55_0, hcz55_1, hcz55_2, hcz55_3⟩ := c4 BK110.out; obtain ⟨hfz55_0, hfz55_1, hfz55_2, hfz55_3⟩ := f4 BK110.out
              go_wp2
              go_ret
              exact ⟨by first | rfl | (simp [errW_none, errW_some] <;> rfl) | (simp [*, errW_none, errW_some] <;> rfl), by repeat (first | (with_reducible first | exact HB.out | apply below_alloc | apply pw_below_drewN | apply below_drew1 | refine below_set ?_ GE109.out | refine below_set ?_ GE110.out) | exact HB.out)⟩
            ·rw [if_neg c50] at H
             have c50b0 : decide ((wrap64 (a0_0 - (wrap64 (4 * (wrap64 (a0_2 - a0_1)))))) ≤ (wrap64 (3 * (wrap64 (a0_1 - (wrap64 (a0_2 - a0_1))))))) = false := decide_eq_false c50
             clear c50
             obtain rfl := Option.some.inj H
             have hnb56 := NB110_109.out; have hnc56 := NB109_110.out; obtain ⟨hcz57_0, hcz57_1, hcz57_2, hcz57_3⟩ := c4 BK110.out; obtain ⟨hfz57_0, hfz57_1, hfz57_2, hfz57_3⟩ := f4 BK110.out
             go_wp2
             go_ret
             exact ⟨by first | rfl | (simp [errW_none, errW_some] <;> rfl) | (simp [*, errW_none, errW_some] <;> rfl), by repeat (first | (with_reducible first | exact HB.out | apply below_alloc | apply pw_below_drewN | apply below_drew1 | refine below_set ?_ GE109.out | refine below_set ?_ GE110.out) | exact HB.out)⟩
           ·rw [if_neg c49] at H
            have c49b0 : decide ((wrap64 (a0_1 - (wrap64 (a0_2 - a0_1)))) ≤ (wrap64 (a0_0 - (wrap64 (4 * (wrap64 (a0_2 - a0_1))))))) = false := decide_eq_false c49
            clear c49
            obtain rfl := Option.some.inj H
            have hnb58 := NB110_109.out; have hnc58 := NB109_110.out; obtain ⟨hcz59_0, hcz59_1, hcz59_2, hcz59_3⟩ := c4 BK110.out; obtain ⟨hfz59_0, hfz59_1, hfz59_2, hfz59_3⟩ := f4 BK110.out
            go_wp2
            go_ret
            exact ⟨by first | rfl | (simp [errW_none, errW_some] <;> rfl) | (simp [*, errW_none, errW_some] <;> rfl), by repeat (first | (with_reducible first | exact HB.out | apply below_alloc | apply pw_below_drewN | apply below_drew1 | refine below_set ?_ GE109.out | refine below_set ?_ GE110.out) | exact HB.out)⟩
          ·rw [if_neg c48] at H
           have c48b0 : decide (0 ≤ (wrap64 (a0_1 - (wrap64 (a0_2 - a0_1))))) = false := decide_eq_false c48
           clear c48
           obtain rfl := Option.some.inj H
           have hnb60 := NB110_109.out; have hnc60 := NB109_110.out; obtain ⟨hcz61_0, hcz61_1, hcz61_2, hcz61_3⟩ := c4 BK110.out; obtain ⟨hfz61_0, hfz61_1, hfz61_2, hfz61_3⟩ := f4 BK110.out
           go_wp2
           go_ret
           exact ⟨by first | rfl | (simp [errW_none, errW_some] <;> rfl) | (simp [*, errW_none, errW_some] <;> rfl), by repeat (first | (with_reducible first | exact HB.out | apply below_alloc | apply pw_below_drewN | apply below_drew1 | refine below_set ?_ GE109.out | refine below_set ?_ GE110.out) | exact HB.out)⟩
         ·rw [if_neg c47] at H
          have c47b0 : decide (0 ≤ (wrap64 (a0_2 - a0_1))) = false := decide_eq_false c47
          clear c47
          obtain rfl := Option.some.inj H
          have hnb62 := NB110_109.out; have hnc62 := NB109_110.out; obtain ⟨hcz63_0, hcz63_1, hcz63_2, hcz63_3⟩ := c4 BK110.out; obtain ⟨hfz63_0, hfz63_1, hfz63_2, hfz63_3⟩ := f4 BK110.out
          go_wp2
          go_ret
          exact ⟨by first | rfl | (simp [errW_none, errW_some] <;> rfl) | (simp [*, errW_none, errW_some] <;> rfl), by repeat (first | (with_reducible first | exact HB.out | apply below_alloc | apply pw_below_drewN | apply below_drew1 | refine below_set ?_ GE109.out | refine below_set ?_ GE110.out) | exact HB.out)⟩
        ·rw [if_neg c46] at H
         have c46b0 : decide (a0_2 ≤ a0_0) = false := decide_eq_false c46
         clear c46
         obtain rfl := Option.some.inj H
         have hnb64 := NB110_109.out; have hnc64 := NB109_110.out; obtain ⟨hcz65_0, hcz65_1, hcz65_2, hcz65_3⟩ := c4 BK110.out; obtain ⟨hfz65_0, hfz65_1, hfz65_2, hfz65_3⟩ := f4 BK110.out
         go_wp2
         go_ret
         exact ⟨by first | rfl | (simp [errW_none, errW_some] <;> rfl) | (simp [*, errW_none, errW_some] <;> rfl), by repeat (first | (with_reducible first | exact HB.out | apply below_alloc | apply pw_below_drewN | apply below_drew1 | refine below_set ?_ GE109.out | refine below_set ?_ GE110.out) | exact HB.out)⟩
       ·rw [if_neg c45] at H
        have c45b0 : decide (0 ≤ a0_2) = false := decide_eq_false c45
        clear c45
        obtain rfl := Option.some.inj H
        have hnb66 := NB110_109.out; have hnc66 := NB109_110.out; obtain ⟨hcz67_0, hcz67_1, hcz67_2, hcz67_3⟩ := c4 BK110.out; obtain ⟨hfz67_0, hfz67_1, hfz67_2, hfz67_3⟩ := f4 BK110.out
        go_wp2
        go_ret
        exact ⟨by first | rfl | (simp [errW_none, errW_some] <;> rfl) | (simp [*, errW_none, errW_some] <;> rfl), by repeat (first | (with_reducible first | exact HB.out | apply below_alloc | apply pw_below_drewN | apply below_drew1 | refine below_set ?_ GE109.out | refine below_set ?_ GE110.out) | exact HB.out)⟩
      ·rw [if_neg c44] at H
       have c44b0 : decide (a0_1 ≤ a0_0) = false := decide_eq_false c44
       clear c44
       obtain rfl := Option.some.inj H
       have hnb68 := NB110_109.out; have hnc68 := NB109_110.out; obtain ⟨hcz69_0, hcz69_1, hcz69_2, hcz69_3⟩ := c4 BK110.out; obtain ⟨hfz69_0, hfz69_1, hfz69_2, hfz69_3⟩ := f4 BK110.out
       go_wp2
       go_ret
       exact ⟨by first | rfl | (simp [errW_none, errW_some] <;> rfl) | (simp [*, errW_none, errW_some] <;> rfl), by repeat (first | (with_reducible first | exact HB.out | apply below_alloc | apply pw_below_drewN | apply below_drew1 | refine below_set ?_ GE109.out | refine below_set ?_ GE110.out) | exact HB.out)⟩
     ·rw [if_neg c43] at H
      have c43b0 : decide (0 ≤ a0_1) = false := decide_eq_false c43
      clear c43
      obtain rfl := Option.some.inj H
      have hnb70 := NB110_109.out; have hnc70 := NB109_110.out; obtain ⟨hcz71_0, hcz71_1, hcz71_2, hcz71_3⟩ := c4 BK110.out; obtain ⟨hfz71_0, hfz71_1, hfz71_2, hfz71_3⟩ := f4 BK110.out
      go_wp2
      go_ret
      exact ⟨by first | rfl | (simp [errW_none, errW_some] <;> rfl) | (simp [*, errW_none, errW_some] <;> rfl), by repeat (first | (with_reducible first | exact HB.out | apply below_alloc | apply pw_below_drewN | apply below_drew1 | refine below_set ?_ GE109.out | refine below_set ?_ GE110.out) | exact HB.out)⟩
end Go.Proofs.YtaojbcplmdjfnaaDoor.Pr

namespace Go.Proofs.YtaojbcplmdjfnaaDoor.Pr
open Go.RowKit Go.Proofs.YtaojbcplmdjfnaaDoorW.PrintWords Go.Proofs.YtaojbcplmdjfnaaDoorW.PrintLast Go.Proofs.YtaojbcplmdjfnaaDoorW.PrintMore
attribute [local go_sem] max2_int min2_int max_two min_two max_three min_three max_four min_four   -- for this text's walks alone
set_option linter.unusedVariables false
set_option linter.unusedSimpArgs false


def weld_units.f (a0 : Int) : Option (Int) := if a0 > 65535 then (some 2) else (some 1)
set_option maxHeartbeats 8000000 in
set_option maxRecDepth 100000 in
theorem weld_units.calls (a0 : Int) (r : Int) (w : World) (h : weld_units.f a0 = some r) :
  Calls Tryd.prog 26 #[.int .i32 a0] w fun e w' => e = .returned (.int .i64 r) ∧ Drawn0 w w' := by
 have H : (if a0 > 65535 then (some 2) else (some 1)) = some r := h
 clear h
 by_cases c2 : a0 > 65535
 ·rw [if_pos c2] at H
  have c2b0 : decide (65535 < a0) = true := decide_eq_true c2
  clear c2
  obtain rfl := Option.some.inj H
  go_enter Tryd.func26, Tryd.ntmps26
  go_wp2
  go_ret
  exact ⟨by first | rfl | (simp; done) | (simp [*]; done), by repeat (first | exact Drawn0.refl _ | apply Drawn0.step)⟩
 ·rw [if_neg c2] at H
  have c2b0 : decide (65535 < a0) = false := decide_eq_false c2
  clear c2
  obtain rfl := Option.some.inj H
  go_enter Tryd.func26, Tryd.ntmps26
  go_wp2
  go_ret
  exact ⟨by first | rfl | (simp; done) | (simp [*]; done), by repeat (first | exact Drawn0.refl _ | apply Drawn0.step)⟩
end Go.Proofs.YtaojbcplmdjfnaaDoor.Pr

namespace Go.Proofs.YtaojbcplmdjfnaaDoor.Pr
open Go.RowKit
set_option linter.unusedVariables false
set_option linter.unusedSimpArgs false
def clsN (b : Int) : Int := if b < 128 then 1 else if b < 192 then 2 else if b < 194 then 6 else if b < 224 then 3 else if b < 240 then 4 else if b < 245 then 5 else 6
def octet_Class.f (a0 : Int) : Option Int := if 0 ≤ a0 ∧ a0 ≤ 255 then some (clsN a0) else none
theorem ret_i64 {a b : Int} (h : a = b) : Ending.returned (.int .i64 a) = .returned (.int .i64 b) := by rw [h]
def lo : Nat → Int
  | 0 => 0 | 1 => 128 | 2 => 192 | 3 => 194 | 4 => 224 | 5 => 240 | 6 => 245 | _ => 256
set_option maxHeartbeats 8000000 in
set_option maxRecDepth 100000 in
theorem octet_Class.calls (a0 : Int) (r : Int) (w : World) (hG : Glob.Globs w) (h : octet_Class.f a0 = some r) :
    Calls Tryd.prog 52 #[.int .u8 a0] w fun e w' => e = .returned (.int .i64 r) ∧ Below w.heap.size w w' := by
  unfold octet_Class.f at h
  split at h
  · rename_i hr
    obtain ⟨h0, h1⟩ := hr
    obtain ⟨t0, f0, hs⟩ := hG.spans
    have HS := Lib.hid hs
    clear hs
    have hr := Option.some.inj h
    have HR := Lib.hid hr
    clear hr h
    go_enter Tryd.func52, Tryd.ntmps52
    go_wp2_with (refine wpList_load_row rfl 87 _ rfl 3 rfl t0 Glob.spansC f0 _ HS.out Tryd.underlying87 rfl (by kernel_rfl) ?_)
    have i0 : ∀ w, (Instr.index 87 (.agg Glob.spansC) (.int .i64 0)).run Tryd.prog w = .ok (.agg #[.int .i64 0, .int .i64 127, .int .i64 1]) w := fun _ => by kernel_rfl
    have i1 : ∀ w, (Instr.index 87 (.agg Glob.spansC) (.int .i64 1)).run Tryd.prog w = .ok (.agg #[.int .i64 128, .int .i64 191, .int .i64 2]) w := fun _ => by kernel_rfl
    have i2 : ∀ w, (Instr.index 87 (.agg Glob.spansC) (.int .i64 2)).run Tryd.prog w = .ok (.agg #[.int .i64 192, .int .i64 193, .int .i64 6]) w := fun _ => by kernel_rfl
    have i3 : ∀ w, (Instr.index 87 (.agg Glob.spansC) (.int .i64 3)).run Tryd.prog w = .ok (.agg #[.int .i64 194, .int .i64 223, .int .i64 3]) w := fun _ => by kernel_rfl
    have i4 : ∀ w, (Instr.index 87 (.agg Glob.spansC) (.int .i64 4)).run Tryd.prog w = .ok (.agg #[.int .i64 224, .int .i64 239, .int .i64 4]) w := fun _ => by kernel_rfl
    have i5 : ∀ w, (Instr.index 87 (.agg Glob.spansC) (.int .i64 5)).run Tryd.prog w = .ok (.agg #[.int .i64 240, .int .i64 244, .int .i64 5]) w := fun _ => by kernel_rfl
    have i6 : ∀ w, (Instr.index 87 (.agg Glob.spansC) (.int .i64 6)).run Tryd.prog w = .ok (.agg #[.int .i64 245, .int .i64 255, .int .i64 6]) w := fun _ => by kernel_rfl
    go_loopw [6] (fun i wr => ∃ k : Nat, k ≤ 6 ∧ i = .int .i64 k ∧ lo k ≤ a0 ∧ Below w.heap.size w wr) (fun i _ => 7 - (intOf i).toNat)
    case atStart => exact ⟨0, by omega, rfl, h0, Below.refl _ _⟩
    case round =>
      obtain ⟨k, hk, rfl, hlo, hB⟩ := hrel
      obtain ⟨k, rfl⟩ : ∃ k' : Nat, k' = k := ⟨k, rfl⟩
      have hcase : k = 0 ∨ k = 1 ∨ k = 2 ∨ k = 3 ∨ k = 4 ∨ k = 5 ∨ k = 6 := by omega
      rcases hcase with rfl | rfl | rfl | rfl | rfl | rfl | rfl
      · simp only [lo] at hlo
        by_cases hh : a0 ≤ 127
        · go_wp2
          go_ret
          exact ⟨ret_i64 (by rw [← HR.out]; unfold clsN; (repeat' split) <;> omega), by first | exact hB.alloc hB.size _ | exact (hB.alloc hB.size _).setCell (by simp; exact hB.size) _⟩
        · go_wp2
          go_roundw
          case rel => exact ⟨1, by omega, rfl, by simp only [lo]; omega, by first | exact hB.alloc hB.size _ | exact (hB.alloc hB.size _).setCell (by simp; exact hB.size) _⟩
          case measure => simp [intOf]
      · simp only [lo] at hlo
        by_cases hh : a0 ≤ 191
        · go_wp2
          go_ret
          exact ⟨ret_i64 (by rw [← HR.out]; unfold clsN; (repeat' split) <;> omega), by first | exact hB.alloc hB.size _ | exact (hB.alloc hB.size _).setCell (by simp; exact hB.size) _⟩
        · go_wp2
          go_roundw
          case rel => exact ⟨2, by omega, rfl, by simp only [lo]; omega, by first | exact hB.alloc hB.size _ | exact (hB.alloc hB.size _).setCell (by simp; exact hB.size) _⟩
          case measure => simp [intOf]
      · simp only [lo] at hlo
        by_cases hh : a0 ≤ 193
        · go_wp2
          go_ret
          exact ⟨ret_i64 (by rw [← HR.out]; unfold clsN; (repeat' split) <;> omega), by first | exact hB.alloc hB.size _ | exact (hB.alloc hB.size _).setCell (by simp; exact hB.size) _⟩
        · go_wp2
          go_roundw
          case rel => exact ⟨3, by omega, rfl, by simp only [lo]; omega, by first | exact hB.alloc hB.size _ | exact (hB.alloc hB.size _).setCell (by simp; exact hB.size) _⟩
          case measure => simp [intOf]
      · simp only [lo] at hlo
        by_cases hh : a0 ≤ 223
        · go_wp2
          go_ret
          exact ⟨ret_i64 (by rw [← HR.out]; unfold clsN; (repeat' split) <;> omega), by first | exact hB.alloc hB.size _ | exact (hB.alloc hB.size _).setCell (by simp; exact hB.size) _⟩
        · go_wp2
          go_roundw
          case rel => exact ⟨4, by omega, rfl, by simp only [lo]; omega, by first | exact hB.alloc hB.size _ | exact (hB.alloc hB.size _).setCell (by simp; exact hB.size) _⟩
          case measure => simp [intOf]
      · simp only [lo] at hlo
        by_cases hh : a0 ≤ 239
        · go_wp2
          go_ret
          exact ⟨ret_i64 (by rw [← HR.out]; unfold clsN; (repeat' split) <;> omega), by first | exact hB.alloc hB.size _ | exact (hB.alloc hB.size _).setCell (by simp; exact hB.size) _⟩
        · go_wp2
          go_roundw
          case rel => exact ⟨5, by omega, rfl, by simp only [lo]; omega, by first | exact hB.alloc hB.size _ | exact (hB.alloc hB.size _).setCell (by simp; exact hB.size) _⟩
          case measure => simp [intOf]
      · simp only [lo] at hlo
        by_cases hh : a0 ≤ 244
        · go_wp2
          go_ret
          exact ⟨ret_i64 (by rw [← HR.out]; unfold clsN; (repeat' split) <;> omega), by first | exact hB.alloc hB.size _ | exact (hB.alloc hB.size _).setCell (by simp; exact hB.size) _⟩
        · go_wp2
          go_roundw
          case rel => exact ⟨6, by omega, rfl, by simp only [lo]; omega, by first | exact hB.alloc hB.size _ | exact (hB.alloc hB.size _).setCell (by simp; exact hB.size) _⟩
          case measure => simp [intOf]
      · simp only [lo] at hlo
        by_cases hh : a0 ≤ 255
        · go_wp2
          go_ret
          exact ⟨ret_i64 (by rw [← HR.out]; unfold clsN; (repeat' split) <;> omega), by first | exact hB.alloc hB.size _ | exact (hB.alloc hB.size _).setCell (by simp; exact hB.size) _⟩
        · omega
  · cases h
end Go.Proofs.YtaojbcplmdjfnaaDoor.Pr

namespace Go.Proofs.YtaojbcplmdjfnaaDoor.Pr
open Go.RowKit
set_option linter.unusedVariables false
set_option linter.unusedSimpArgs false
def needN (b : Int) : Int := if b < 128 then 1 else if b < 194 then 0 else if b < 224 then 2 else if b < 240 then 3 else if b < 245 then 4 else 0
def octet_Need.f (a0 : Int) : Option Int := if 0 ≤ a0 ∧ a0 ≤ 255 then some (needN a0) else none
set_option maxHeartbeats 8000000 in
set_option maxRecDepth 100000 in
theorem octet_Need.calls (a0 : Int) (r : Int) (w : World) (hG : Glob.Globs w) (h : octet_Need.f a0 = some r) :
    Calls Tryd.prog 51 #[.int .u8 a0] w fun e w' => e = .returned (.int .i64 r) ∧ Below w.heap.size w w' := by
  unfold octet_Need.f at h
  split at h
  · rename_i hr
    obtain ⟨h0, h1⟩ := hr
    have hr := Option.some.inj h
    have HR := Lib.hid hr
    have HG := Lib.hid hG
    clear hr h hG
    have hc : octet_Class.f a0 = some (clsN a0) := by unfold octet_Class.f; rw [if_pos ⟨h0, h1⟩]
    have HC := Lib.hid hc
    clear hc
    have hcell : ∀ w1 : World, Below w.heap.size w w1 → w1.cell? ⟨2, (clsN a0).toNat, none⟩ = some (.int .i64 (needN a0)) := by
      intro w1 hb
      have hG1 := Glob.Globs_below HG.out hb
      rw [hG1.needs_cell]
      unfold clsN needN; (repeat' split) <;> first | rfl | omega
    have HL := Lib.hid hcell
    clear hcell
    have hcr : 0 ≤ clsN a0 ∧ clsN a0 < 7 := by unfold clsN; (repeat' split) <;> omega
    obtain ⟨hc0, hc7⟩ := hcr
    go_enter Tryd.func51, Tryd.ntmps51
    go_wp2_with (go_at_call 52; refine (octet_Class.calls a0 (clsN a0) _ HG.out HC.out).mono ?_; rintro e w1 ⟨rfl, hb⟩; have hl := HL.out w1 hb)
    go_ret
    exact ⟨ret_i64 (HR.out), hb⟩
  · cases h
end Go.Proofs.YtaojbcplmdjfnaaDoor.Pr

namespace Go.Proofs.YtaojbcplmdjfnaaDoor.Pr
open Go.RowKit Go.Proofs.YtaojbcplmdjfnaaDoorW.PrintWords Go.Proofs.YtaojbcplmdjfnaaDoorW.PrintLast Go.Proofs.YtaojbcplmdjfnaaDoorW.PrintMore
attribute [local go_sem] max2_int min2_int max_two min_two max_three min_three max_four min_four   -- for this text's walks alone
set_option linter.unusedVariables false
set_option linter.unusedSimpArgs false
def octet_second.f (a0 : Int) : Option (Int × Int) := if a0 = 224 then (some (160, 191)) else (if a0 = 237 then (some (128, 159)) else (if a0 = 240 then (some (144, 191)) else (if a0 = 244 then (some (128, 143)) else ((octet_Need.f a0).bind fun t122 => (if t122 > 1 then (some (128, 191)) else (some (1, 0)))))))
set_option maxHeartbeats 8000000 in
set_option maxRecDepth 100000 in
theorem octet_second.calls (a0 : Int) (r1 : Int) (r2 : Int) (w : World) (hG : Glob.Globs w) (h : octet_second.f a0 = some (r1, r2)) :
  Calls Tryd.prog 54 #[.int .u8 a0] w fun e w' => e = .returned (.tuple #[.int .u8 r1, .int .u8 r2]) ∧ Below w.heap.size w w' := by
 have HG := Aside0.mk hG; clear hG
 have HB := Aside0.mk (Below.refl w.heap.size w)
 have H : (if a0 = 224 then (some (160, 191)) else (if a0 = 237 then (some (128, 159)) else (if a0 = 240 then (some (144, 191)) else (if a0 = 244 then (some (128, 143)) else ((octet_Need.f a0).bind fun t122 => (if t122 > 1 then (some (128, 191)) else (some (1, 0)))))))) = some (r1, r2) := h
 clear h
 by_cases c2 : a0 = 224
 ·rw [if_pos c2] at H
  have c2b0 : (a0 == 224) = true := beq_iff_eq.mpr c2
  have c2b1 : (a0 != 224) = false := bne_eq_false_iff_eq.mpr c2
  clear c2
  simp only [Option.some.injEq, Prod.mk.injEq] at H
  obtain ⟨rfl, rfl⟩ := H
  go_enter Tryd.func54, Tryd.ntmps54
  go_wp2
  go_ret2
  exact ⟨by first | rfl | (simp [errW_none, errW_some] <;> rfl) | (simp [*, errW_none, errW_some] <;> rfl), bl HB.out⟩
 ·rw [if_neg c2] at H
  have c2b0 : (a0 == 224) = false := beq_eq_false_iff_ne.mpr c2
  have c2b1 : (a0 != 224) = true := bne_iff_ne.mpr c2
  by_cases c3 : a0 = 237
  ·rw [if_pos c3] at H
   have c3b0 : (a0 == 237) = true := beq_iff_eq.mpr c3
   have c3b1 : (a0 != 237) = false := bne_eq_false_iff_eq.mpr c3
   clear c3
   simp only [Option.some.injEq, Prod.mk.injEq] at H
   obtain ⟨rfl, rfl⟩ := H
   go_enter Tryd.func54, Tryd.ntmps54
   go_wp2
   go_ret2
   exact ⟨by first | rfl | (simp [errW_none, errW_some] <;> rfl) | (simp [*, errW_none, errW_some] <;> rfl), bl HB.out⟩
  ·rw [if_neg c3] at H
   have c3b0 : (a0 == 237) = false := beq_eq_false_iff_ne.mpr c3
   have c3b1 : (a0 != 237) = true := bne_iff_ne.mpr c3
   by_cases c4 : a0 = 240
   ·rw [if_pos c4] at H
    have c4b0 : (a0 == 240) = true := beq_iff_eq.mpr c4
    have c4b1 : (a0 != 240) = false := bne_eq_false_iff_eq.mpr c4
    clear c4
    simp only [Option.some.injEq, Prod.mk.injEq] at H
    obtain ⟨rfl, rfl⟩ := H
    go_enter Tryd.func54, Tryd.ntmps54
    go_wp2
    go_ret2
    exact ⟨by first | rfl | (simp [errW_none, errW_some] <;> rfl) | (simp [*, errW_none, errW_some] <;> rfl), bl HB.out⟩
   ·rw [if_neg c4] at H
    have c4b0 : (a0 == 240) = false := beq_eq_false_iff_ne.mpr c4
    have c4b1 : (a0 != 240) = true := bne_iff_ne.mpr c4
    by_cases c5 : a0 = 244
    ·rw [if_pos c5] at H
     have c5b0 : (a0 == 244) = true := beq_iff_eq.mpr c5
     have c5b1 : (a0 != 244) = false := bne_eq_false_iff_eq.mpr c5
     clear c5
     simp only [Option.some.injEq, Prod.mk.injEq] at H
     obtain ⟨rfl, rfl⟩ := H
     go_enter Tryd.func54, Tryd.ntmps54
     go_wp2
     go_ret2
     exact ⟨by first | rfl | (simp [errW_none, errW_some] <;> rfl) | (simp [*, errW_none, errW_some] <;> rfl), bl HB.out⟩
    ·rw [if_neg c5] at H
     have c5b0 : (a0 == 244) = false := beq_eq_false_iff_ne.mpr c5
     have c5b1 : (a0 != 244) = true := bne_iff_ne.mpr c5
     replace H := Option.bind_eq_some_iff.mp H
     obtain ⟨t122, A60, H⟩ := H
     replace H : (if t122 > 1 then (some (128, 191)) else (some (1, 0))) = some (r1, r2) := H
     have A6 := Aside0.mk A60; clear A60
     by_cases c7 : t122 > 1
     ·rw [if_pos c7] at H
      have c7b0 : decide (1 < t122) = true := decide_eq_true c7
      clear c7
      simp only [Option.some.injEq, Prod.mk.injEq] at H
      obtain ⟨rfl, rfl⟩ := H
      go_enter Tryd.func54, Tryd.ntmps54
      go_wp2_with (first | ((with_reducible refine gate_callee (f := 51) rfl ?_); refine goesL_ (some 14) rfl rfl Tryd.func51 (by kernel_rfl) rfl #[.int .u8 a0] rfl (by (try simp only [List.map_toArray, List.map_cons, List.map_nil]); first | done | rfl | (simp only [List.length_drop, List.length_take]; rfl)) ?_; (with_reducible refine (octet_Need.calls a0 t122 _ ?side1 A6.out).mono ?_); (case side1 => first | (with_reducible exact HG.out) | exact Glob.Globs_below HG.out (bl HB.out)); rintro e w8 ⟨rfl, hb⟩; refine ⟨_, rfl, ?_⟩; replace HB := Aside0.mk (below_step (bl HB.out) hb); (try clear hb); (try clear hb2); (try clear hk); (try clear hi)))
      go_ret2
      exact ⟨by first | rfl | (simp [errW_none, errW_some] <;> rfl) | (simp [*, errW_none, errW_some] <;> rfl), bl HB.out⟩
     ·rw [if_neg c7] at H
      have c7b0 : decide (1 < t122) = false := decide_eq_false c7
      clear c7
      simp only [Option.some.injEq, Prod.mk.injEq] at H
      obtain ⟨rfl, rfl⟩ := H
      go_enter Tryd.func54, Tryd.ntmps54
      go_wp2_with (first | ((with_reducible refine gate_callee (f := 51) rfl ?_); refine goesL_ (some 14) rfl rfl Tryd.func51 (by kernel_rfl) rfl #[.int .u8 a0] rfl (by (try simp only [List.map_toArray, List.map_cons, List.map_nil]); first | done | rfl | (simp only [List.length_drop, List.length_take]; rfl)) ?_; (with_reducible refine (octet_Need.calls a0 t122 _ ?side1 A6.out).mono ?_); (case side1 => first | (with_reducible exact HG.out) | exact Glob.Globs_below HG.out (bl HB.out)); rintro e w9 ⟨rfl, hb⟩; refine ⟨_, rfl, ?_⟩; replace HB := Aside0.mk (below_step (bl HB.out) hb); (try clear hb); (try clear hb2); (try clear hk); (try clear hi)))
      go_ret2
      exact ⟨by first | rfl | (simp [errW_none, errW_some] <;> rfl) | (simp [*, errW_none, errW_some] <;> rfl), bl HB.out⟩
def octet_Second.f (a0 : Int) (a1 : Int) : Option (Bool) := (octet_second.f a0).bind fun bt123 => (if a1 ≥ bt123.1 then (some (decide (a1 ≤ bt123.2))) else (some false))
set_option maxHeartbeats 8000000 in
set_option maxRecDepth 100000 in
theorem octet_Second.calls (a0 : Int) (a1 : Int) (r : Bool) (w : World) (hG : Glob.Globs w) (h : octet_Second.f a0 a1 = some r) :
  Calls Tryd.prog 53 #[.int .u8 a0, .int .u8 a1] w fun e w' => e = .returned (.bool r) ∧ Below w.heap.size w w' := by
 have HG := Aside0.mk hG; clear hG
 have HB := Aside0.mk (Below.refl w.heap.size w)
 have H : ((octet_second.f a0).bind fun bt123 => (if a1 ≥ bt123.1 then (some (decide (a1 ≤ bt123.2))) else (some false))) = some r := h
 clear h
 replace H := Option.bind_eq_some_iff.mp H
 obtain ⟨⟨t123, t124⟩, A30, H⟩ := H
 have A3 := Aside0.mk A30; clear A30
 by_cases c4 : a1 ≥ t123
 ·rw [if_pos c4] at H
  have c4b0 : decide (t123 ≤ a1) = true := decide_eq_true c4
  clear c4
  obtain rfl := Option.some.inj H
  go_enter Tryd.func53, Tryd.ntmps53
  go_wp2_with (first | ((with_reducible refine gate_callee (f := 54) rfl ?_); refine goesL_ (some 9) rfl rfl Tryd.func54 (by kernel_rfl) rfl #[.int .u8 a0] rfl (by (try simp only [List.map_toArray, List.map_cons, List.map_nil]); first | done | rfl | (simp only [List.length_drop, List.length_take]; rfl)) ?_; (with_reducible refine (octet_second.calls a0 t123 t124 _ ?side1 A3.out).mono ?_); (case side1 => first | (with_reducible exact HG.out) | exact Glob.Globs_below HG.out (bl HB.out)); rintro e w5 ⟨rfl, hb⟩; refine ⟨_, rfl, ?_⟩; replace HB := Aside0.mk (below_step (bl HB.out) hb); (try clear hb); (try clear hb2); (try clear hk); (try clear hi)))
  go_ret
  exact ⟨by first | rfl | (simp [errW_none, errW_some] <;> rfl) | (simp [*, errW_none, errW_some] <;> rfl), bl HB.out⟩
 ·rw [if_neg c4] at H
  have c4b0 : decide (t123 ≤ a1) = false := decide_eq_false c4
  clear c4
  obtain rfl := Option.some.inj H
  go_enter Tryd.func53, Tryd.ntmps53
  go_wp2_with (first | ((with_reducible refine gate_callee (f := 54) rfl ?_); refine goesL_ (some 9) rfl rfl Tryd.func54 (by kernel_rfl) rfl #[.int .u8 a0] rfl (by (try simp only [List.map_toArray, List.map_cons, List.map_nil]); first | done | rfl | (simp only [List.length_drop, List.length_take]; rfl)) ?_; (with_reducible refine (octet_second.calls a0 t123 t124 _ ?side1 A3.out).mono ?_); (case side1 => first | (with_reducible exact HG.out) | exact Glob.Globs_below HG.out (bl HB.out)); rintro e w6 ⟨rfl, hb⟩; refine ⟨_, rfl, ?_⟩; replace HB := Aside0.mk (below_step (bl HB.out) hb); (try clear hb); (try clear hb2); (try clear hk); (try clear hi)))
  go_ret
  exact ⟨by first | rfl | (simp [errW_none, errW_some] <;> rfl) | (simp [*, errW_none, errW_some] <;> rfl), bl HB.out⟩
mutual
def octet_Whole.j0 : Nat → List Int → Bool → Option (Bool)
 | 0, _, _ => none
 | k + 1, x0, x16 => if x16 = true then (some false) else (if 1 ≤ (x0.length : Int) then (octet_Whole.l0 k x0 (drop1 x0) ((drop1 x0).length : Int) 0) else (none))
def octet_Whole.l0 : Nat → List Int → List Int → Int → Int → Option (Bool)
 | 0, _, _, _, _ => none
 | k + 1, x0, x18, x19, x20 => if x20 < x19 then (if 0 ≤ x20 then (if x20 < (x18.length : Int) then ((octet_Class.f (rd x18 x20)).bind fun t129 => (if t129 = 2 then (if x20 = 0 then (if 0 < (x0.length : Int) then ((octet_Second.f (rd x0 0) (rd x18 x20)).bind fun t131 => (if t131 = true then (octet_Whole.l0 k x0 x18 x19 (wrap64 (x20 + 1))) else (some false))) else (none)) else (octet_Whole.l0 k x0 x18 x19 (wrap64 (x20 + 1)))) else (some false))) else (none)) else (none)) else (some true)
end
def octet_Whole.f (k : Nat) (l0 : List Int) : Option (Bool) := if (l0.length : Int) = 0 then (octet_Whole.j0 k l0 true) else (if 0 < (l0.length : Int) then ((octet_Need.f (rd l0 0)).bind fun t126 => (octet_Whole.j0 k l0 (t126 != (l0.length : Int)))) else (none))
set_option maxHeartbeats 8000000 in
set_option maxRecDepth 100000 in
theorem octet_Whole.calls (k : Nat) (A0 : Option Addr) (c0 : Nat) (l0 : List Int) (r : Bool) (w : World) (hG : Glob.Globs w) (hr0 : Kd.C (Kd.int .u8) w A0 l0.length l0) (hc0 : l0.length ≤ c0) (h : octet_Whole.f k l0 = some r) :
  Calls Tryd.prog 50 #[.slice A0 l0.length c0] w fun e w' => e = .returned (.bool r) ∧ Below w.heap.size w w' := by
 have HG := Aside0.mk hG; clear hG; have HR0 := Aside0.mk hr0; have HC0 := Aside0.mk hc0; clear hr0 hc0
 have HB := Aside0.mk (Below.refl w.heap.size w)
 have H : (if (l0.length : Int) = 0 then (octet_Whole.j0 k l0 true) else (if 0 < (l0.length : Int) then ((octet_Need.f (rd l0 0)).bind fun t126 => (octet_Whole.j0 k l0 (t126 != (l0.length : Int)))) else (none))) = some r := h
 clear h; have HC2 := Aside0.mk H; clear H
 go_enter Tryd.func50, Tryd.ntmps50
 go_upto_region 1 with (fail)
 go_cut [16] (fun v16 wc => ∃ (kq : Nat) (x16_1 : Bool), v16 = .bool x16_1 ∧ Aside0 (octet_Whole.j0 kq l0 x16_1 = some r) ∧ Aside0 (kq ≤ k) ∧ Aside0 (Below w.heap.size w wc))
 case first =>
  have H := HC2.out; clear HC2
  by_cases c3 : (l0.length : Int) = 0
  ·rw [if_pos c3] at H
   have c3b0 : ((l0.length : Int) == 0) = true := beq_iff_eq.mpr c3
   have c3b1 : ((l0.length : Int) != 0) = false := bne_eq_false_iff_eq.mpr c3
   clear c3
   (first | rw [c3b0] | (simp only [i64_w, i32_w]; rw [c3b0]) | skip)
   have H' := Aside0.mk H; clear H
   go_wp2
   go_meet
   case rel => exact ⟨_, (true), (by first | rfl | (simp; done) | (simp [*]; done)), H', ⟨by first | omega | exact Nat.le_refl _⟩, ⟨bl HB.out⟩⟩
  ·rw [if_neg c3] at H
   have c3b0 : ((l0.length : Int) == 0) = false := beq_eq_false_iff_ne.mpr c3
   have c3b1 : ((l0.length : Int) != 0) = true := bne_iff_ne.mpr c3
   have c3b2 : ¬ (l0 = []) := fun h_ => c3 (by rw [h_]; rfl)
   (first | rw [c3b0] | (simp only [i64_w, i32_w]; rw [c3b0]) | skip)
   by_cases c4 : 0 < (l0.length : Int)
   ·rw [if_pos c4] at H
    have c4b0 : decide (0 < (l0.length : Int)) = true := decide_eq_true c4
    have c4b1 : decide (0 < l0.length) = true := decide_eq_true (by omega)
    clear c4
    replace H := Option.bind_eq_some_iff.mp H
    obtain ⟨t126, A50, H⟩ := H
    have A5 := Aside0.mk A50; clear A50; have H' := Aside0.mk H; clear H
    have p125 : 0 ≤ (0 : Int) := (by omega)
    have q125 : 0 < (l0.length : Int) := of_decide_eq_true (by first | (with_reducible assumption) | assumption)
    obtain ⟨ad125, e125, hx125_0⟩ := Kd.at_int HR0.out 0 p125 q125
    cases e125
    have qi125 : (0 < l0.length) = True := eq_true (by omega)
    (try rw [show ((0 : Int)).toNat = 0 from rfl] at hx125_0)
    (try rw [Addr.add_zero'] at hx125_0)
    replace hx125_0 := (HB.out.cell (World.block_lt_of_cell? w _ hx125_0)).trans hx125_0
    replace p125 := eq_true p125
    replace q125 := eq_true q125
    go_wp2_with (first | (go_at_call 51; (with_reducible refine (octet_Need.calls (rd l0 0) t126 _ ?side1 A5.out).mono ?_); (case side1 => first | (with_reducible exact HG.out) | exact Glob.Globs_below HG.out (bl HB.out)); rintro e w6 ⟨rfl, hb⟩; replace HB := Aside0.mk (below_step (bl HB.out) hb); (try clear hb); (try clear hb2); (try clear hk); (try clear hi)))
    go_meet
    case rel => exact ⟨_, ((t126 != (l0.length : Int))), (by first | rfl | (simp; done) | (simp [*]; done)), H', ⟨by first | omega | exact Nat.le_refl _⟩, ⟨bl HB.out⟩⟩
   ·rw [if_neg c4] at H
    exact absurd H (by simp)
 case rest =>
  clear HC2; (try clear p1); (try clear q1); (try clear hx1); (try clear qi1); (try clear p2); (try clear c3); (try clear c3b0); (try clear c3b1); (try clear c3b2); (try clear c4); (try clear c4b0); (try clear c4b1); (try clear c5); (try clear hx125_0); (try clear p125); (try clear q125)
  obtain ⟨kq, x16_1, rfl, HA, HJ1, HB⟩ := hcut
  cases kq with
  | zero => exact absurd HA.out (by simp [octet_Whole.j0])
  | succ kj1 =>
   have H := HA.out; clear HA
   simp only [octet_Whole.j0] at H
   by_cases c7 : x16_1 = true
   ·subst c7
    have H1 : (some false) = some r := by rw [if_pos rfl] at H; exact H
    clear H; have H := H1; clear H1
    obtain rfl := Option.some.inj H
    go_wp2
    go_ret
    exact ⟨by first | rfl | (simp [errW_none, errW_some] <;> rfl) | (simp [*, errW_none, errW_some] <;> rfl), bl HB.out⟩
   ·replace c7 := Bool.eq_false_iff.mpr c7
    subst c7
    have H1 : (if 1 ≤ (l0.length : Int) then (octet_Whole.l0 kj1 l0 (drop1 l0) ((drop1 l0).length : Int) 0) else (none)) = some r := by rw [if_neg (show ¬ (false = true) by decide)] at H; exact H
    clear H; have H := H1; clear H1
    by_cases c8 : 1 ≤ (l0.length : Int)
    ·rw [if_pos c8] at H
     have c8b0 := eq_true c8
     have c8b1 : decide (1 ≤ (l0.length : Int)) = true := decide_eq_true c8
     clear c8; have H' := Aside0.mk H; clear H
     obtain ⟨i09, hi09, _, hsz9, _⟩ := info_parts info5
     obtain ⟨A9, hcut9, hA9, hC9⟩ := print_drop_of (P := Tryd.prog) (Value.int .u8) 0 29 5 .i64 Tryd.underlying29 hi09 hsz9 A0 c0 l0 1 (by omega) (of_decide_eq_true (by first | (with_reducible assumption) | assumption)) HC0.out
     have HR127 := Aside0.mk (show Kd.C _ _ _ _ (drop1 l0) from (Kd.C_of_reads (h1 := fun _ => rfl) (hA9 _ (Kd.reads_of_C HR0.out))))
     have HC127 := Aside0.mk hC9; clear hA9 hC9 hi09 hsz9
     go_wp2
     go_loopg [20] kj1 (fun kq v20 w' => ∃ (x20_2 : Int), v20 = .int .i64 x20_2 ∧ Aside0 (octet_Whole.l0 kq l0 (drop1 l0) ((drop1 l0).length : Int) x20_2 = some r) ∧ Aside0 (kq ≤ kj1) ∧ Aside0 (Below w.heap.size w w'))
     case atStart => exact ⟨(0), (by first | rfl | (simp; done) | (simp [*]; done)), H', ⟨Nat.le_refl _⟩, ⟨bl HB.out⟩⟩
     case round =>
      clear H'
      (try clear p1); (try clear q1); (try clear hx1); (try clear qi1); (try clear p2); (try clear c3); (try clear c3b0); (try clear c3b1); (try clear c3b2); (try clear c4); (try clear c4b0); (try clear c4b1); (try clear c5); (try clear c7); (try clear c8); (try clear c8b0); (try clear c8b1); (try clear hx125_0); (try clear p1); (try clear p125); (try clear p2); (try clear q1); (try clear q125)
      obtain ⟨x20_2, rfl, HA, HK2, HB⟩ := hrel
      cases gk with
      | zero => exact absurd HA.out (by simp [octet_Whole.l0])
      | succ k2 =>
       have H := HA.out; clear HA
       simp only [octet_Whole.l0] at H
       by_cases c10 : x20_2 < ((drop1 l0).length : Int)
       ·rw [if_pos c10] at H
        have c10b0 : decide (x20_2 < ((l0.drop 1).length : Int)) = true := decide_eq_true c10
        have c10b0n : decide (x20_2 < ((l0.length - 1 : Nat) : Int)) = true := by have z_ := c10b0; rwa [List.length_drop] at z_
        clear c10
        by_cases c11 : 0 ≤ x20_2
        ·rw [if_pos c11] at H
         have c11b0 : decide (0 ≤ x20_2) = true := decide_eq_true c11
         clear c11
         by_cases c12 : x20_2 < ((drop1 l0).length : Int)
         ·rw [if_pos c12] at H
          have c12b0 : decide (x20_2 < ((l0.drop 1).length : Int)) = true := decide_eq_true c12
          have c12b0n : decide (x20_2 < ((l0.length - 1 : Nat) : Int)) = true := by have z_ := c12b0; rwa [List.length_drop] at z_
          clear c12
          replace H := Option.bind_eq_some_iff.mp H
          obtain ⟨t129, A130, H⟩ := H
          have A13 := Aside0.mk A130; clear A130
          by_cases c14 : t129 = 2
          ·rw [if_pos c14] at H
           have c14b0 : (t129 == 2) = true := beq_iff_eq.mpr c14
           have c14b1 : (t129 != 2) = false := bne_eq_false_iff_eq.mpr c14
           clear c14
           by_cases c15 : x20_2 = 0
           ·rw [if_pos c15] at H
            have c15b0 : (x20_2 == 0) = true := beq_iff_eq.mpr c15
            have c15b1 : (x20_2 != 0) = false := bne_eq_false_iff_eq.mpr c15
            clear c15
            by_cases c16 : 0 < (l0.length : Int)
            ·rw [if_pos c16] at H
             have c16b0 : decide (0 < (l0.length : Int)) = true := decide_eq_true c16
             have c16b1 : decide (0 < l0.length) = true := decide_eq_true (by omega)
             clear c16
             replace H := Option.bind_eq_some_iff.mp H
             obtain ⟨t131, A170, H⟩ := H
             have A17 := Aside0.mk A170; clear A170
             by_cases c18 : t131 = true
             ·subst c18
              have H1 : (octet_Whole.l0 k2 l0 (drop1 l0) ((drop1 l0).length : Int) (wrap64 (x20_2 + 1))) = some r := by rw [if_pos rfl] at H; exact H
              clear H; have H := H1; clear H1; have H' := Aside0.mk H; clear H
              have p128 : 0 ≤ (x20_2 : Int) := of_decide_eq_true (by first | (with_reducible assumption) | assumption)
              have q128 : x20_2 < ((l0.drop 1).length : Int) := of_decide_eq_true (by first | (with_reducible assumption) | assumption)
              obtain ⟨ad128, e128, hx128_0⟩ := Kd.at_int HR127.out x20_2 p128 q128
              cases e128
              replace hx128_0 := (HB.out.cell (World.block_lt_of_cell? w _ hx128_0)).trans hx128_0
              replace p128 := eq_true p128
              replace q128 := eq_true q128; have q128n : (x20_2 < ((l0.length - 1 : Nat) : Int)) = True := by have z_ := q128; rwa [List.length_drop] at z_
              go_wp2_with (first | ((with_reducible refine gate_callee (f := 52) rfl ?_); refine goesL_ (some 26) rfl rfl Tryd.func52 (by kernel_rfl) rfl #[.int .u8 (rd (drop1 l0) x20_2)] rfl (by (try simp only [List.map_toArray, List.map_cons, List.map_nil]); first | done | rfl | (simp only [List.length_drop, List.length_take]; rfl)) ?_; (with_reducible refine (octet_Class.calls (rd (drop1 l0) x20_2) t129 _ ?side1 A13.out).mono ?_); (case side1 => first | (with_reducible exact HG.out) | exact Glob.Globs_below HG.out (bl HB.out)); rintro e w19 ⟨rfl, hb⟩; refine ⟨_, rfl, ?_⟩; replace HB := Aside0.mk (below_step (bl HB.out) hb); (try clear hb); (try clear hb2); (try clear hk); (try clear hi); have p130 : 0 ≤ (0 : Int) := (by omega); have q130 : 0 < (l0.length : Int) := of_decide_eq_true (by first | (with_reducible assumption) | assumption); obtain ⟨ad130, e130, hx130_0⟩ := Kd.at_int HR0.out 0 p130 q130; cases e130; have qi130 : (0 < l0.length) = True := eq_true (by omega); (try rw [show ((0 : Int)).toNat = 0 from rfl] at hx130_0); (try rw [Addr.add_zero'] at hx130_0); replace hx130_0 := (HB.out.cell (World.block_lt_of_cell? w _ hx130_0)).trans hx130_0; replace p130 := eq_true p130; replace q130 := eq_true q130) | (go_at_call 53; (with_reducible refine (octet_Second.calls (rd l0 0) (rd (drop1 l0) x20_2) true _ ?side1 A17.out).mono ?_); (case side1 => first | (with_reducible exact HG.out) | exact Glob.Globs_below HG.out (bl HB.out)); rintro e w20 ⟨rfl, hb⟩; replace HB := Aside0.mk (below_step (bl HB.out) hb); (try clear hb); (try clear hb2); (try clear hk); (try clear hi)))
              go_roundg k2
              case measure => have := HJ1.out; have := HK2.out; omega
              case rel => exact ⟨(wrap64 (x20_2 + 1)), (by first | rfl | (simp; done) | (simp [*]; done)), H', ⟨by have := HJ1.out; have := HK2.out; omega⟩, ⟨bl HB.out⟩⟩
             ·replace c18 := Bool.eq_false_iff.mpr c18
              subst c18
              have H1 : (some false) = some r := by rw [if_neg (show ¬ (false = true) by decide)] at H; exact H
              clear H; have H := H1; clear H1
              obtain rfl := Option.some.inj H
              have p128 : 0 ≤ (x20_2 : Int) := of_decide_eq_true (by first | (with_reducible assumption) | assumption)
              have q128 : x20_2 < ((l0.drop 1).length : Int) := of_decide_eq_true (by first | (with_reducible assumption) | assumption)
              obtain ⟨ad128, e128, hx128_0⟩ := Kd.at_int HR127.out x20_2 p128 q128
              cases e128
              replace hx128_0 := (HB.out.cell (World.block_lt_of_cell? w _ hx128_0)).trans hx128_0
              replace p128 := eq_true p128
              replace q128 := eq_true q128; have q128n : (x20_2 < ((l0.length - 1 : Nat) : Int)) = True := by have z_ := q128; rwa [List.length_drop] at z_
              go_wp2_with (first | ((with_reducible refine gate_callee (f := 52) rfl ?_); refine goesL_ (some 26) rfl rfl Tryd.func52 (by kernel_rfl) rfl #[.int .u8 (rd (drop1 l0) x20_2)] rfl (by (try simp only [List.map_toArray, List.map_cons, List.map_nil]); first | done | rfl | (simp only [List.length_drop, List.length_take]; rfl)) ?_; (with_reducible refine (octet_Class.calls (rd (drop1 l0) x20_2) t129 _ ?side1 A13.out).mono ?_); (case side1 => first | (with_reducible exact HG.out) | exact Glob.Globs_below HG.out (bl HB.out)); rintro e w21 ⟨rfl, hb⟩; refine ⟨_, rfl, ?_⟩; replace HB := Aside0.mk (below_step (bl HB.out) hb); (try clear hb); (try clear hb2); (try clear hk); (try clear hi); have p130 : 0 ≤ (0 : Int) := (by omega); have q130 : 0 < (l0.length : Int) := of_decide_eq_true (by first | (with_reducible assumption) | assumption); obtain ⟨ad130, e130, hx130_0⟩ := Kd.at_int HR0.out 0 p130 q130; cases e130; have qi130 : (0 < l0.length) = True := eq_true (by omega); (try rw [show ((0 : Int)).toNat = 0 from rfl] at hx130_0); (try rw [Addr.add_zero'] at hx130_0); replace hx130_0 := (HB.out.cell (World.block_lt_of_cell? w _ hx130_0)).trans hx130_0; replace p130 := eq_true p130; replace q130 := eq_true q130) | (go_at_call 53; (with_reducible refine (octet_Second.calls (rd l0 0) (rd (drop1 l0) x20_2) false _ ?side1 A17.out).mono ?_); (case side1 => first | (with_reducible exact HG.out) | exact Glob.Globs_below HG.out (bl HB.out)); rintro e w22 ⟨rfl, hb⟩; replace HB := Aside0.mk (below_step (bl HB.out) hb); (try clear hb); (try clear hb2); (try clear hk); (try clear hi)))
              go_ret
              exact ⟨by first | rfl | (simp [errW_none, errW_some] <;> rfl) | (simp [*, errW_none, errW_some] <;> rfl), bl HB.out⟩
            ·rw [if_neg c16] at H
             exact absurd H (by simp)
           ·rw [if_neg c15] at H
            have c15b0 : (x20_2 == 0) = false := beq_eq_false_iff_ne.mpr c15
            have c15b1 : (x20_2 != 0) = true := bne_iff_ne.mpr c15
            have H' := Aside0.mk H; clear H
            have p128 : 0 ≤ (x20_2 : Int) := of_decide_eq_true (by first | (with_reducible assumption) | assumption)
            have q128 : x20_2 < ((l0.drop 1).length : Int) := of_decide_eq_true (by first | (with_reducible assumption) | assumption)
            obtain ⟨ad128, e128, hx128_0⟩ := Kd.at_int HR127.out x20_2 p128 q128
            cases e128
            replace hx128_0 := (HB.out.cell (World.block_lt_of_cell? w _ hx128_0)).trans hx128_0
            replace p128 := eq_true p128
            replace q128 := eq_true q128; have q128n : (x20_2 < ((l0.length - 1 : Nat) : Int)) = True := by have z_ := q128; rwa [List.length_drop] at z_
            go_wp2_with (first | ((with_reducible refine gate_callee (f := 52) rfl ?_); refine goesL_ (some 26) rfl rfl Tryd.func52 (by kernel_rfl) rfl #[.int .u8 (rd (drop1 l0) x20_2)] rfl (by (try simp only [List.map_toArray, List.map_cons, List.map_nil]); first | done | rfl | (simp only [List.length_drop, List.length_take]; rfl)) ?_; (with_reducible refine (octet_Class.calls (rd (drop1 l0) x20_2) t129 _ ?side1 A13.out).mono ?_); (case side1 => first | (with_reducible exact HG.out) | exact Glob.Globs_below HG.out (bl HB.out)); rintro e w23 ⟨rfl, hb⟩; refine ⟨_, rfl, ?_⟩; replace HB := Aside0.mk (below_step (bl HB.out) hb); (try clear hb); (try clear hb2); (try clear hk); (try clear hi)))
            go_roundg k2
            case measure => have := HJ1.out; have := HK2.out; omega
            case rel => exact ⟨(wrap64 (x20_2 + 1)), (by first | rfl | (simp; done) | (simp [*]; done)), H', ⟨by have := HJ1.out; have := HK2.out; omega⟩, ⟨bl HB.out⟩⟩
          ·rw [if_neg c14] at H
           have c14b0 : (t129 == 2) = false := beq_eq_false_iff_ne.mpr c14
           have c14b1 : (t129 != 2) = true := bne_iff_ne.mpr c14
           obtain rfl := Option.some.inj H
           have p128 : 0 ≤ (x20_2 : Int) := of_decide_eq_true (by first | (with_reducible assumption) | assumption)
           have q128 : x20_2 < ((l0.drop 1).length : Int) := of_decide_eq_true (by first | (with_reducible assumption) | assumption)
           obtain ⟨ad128, e128, hx128_0⟩ := Kd.at_int HR127.out x20_2 p128 q128
           cases e128
           replace hx128_0 := (HB.out.cell (World.block_lt_of_cell? w _ hx128_0)).trans hx128_0
           replace p128 := eq_true p128
           replace q128 := eq_true q128; have q128n : (x20_2 < ((l0.length - 1 : Nat) : Int)) = True := by have z_ := q128; rwa [List.length_drop] at z_
           go_wp2_with (first | ((with_reducible refine gate_callee (f := 52) rfl ?_); refine goesL_ (some 26) rfl rfl Tryd.func52 (by kernel_rfl) rfl #[.int .u8 (rd (drop1 l0) x20_2)] rfl (by (try simp only [List.map_toArray, List.map_cons, List.map_nil]); first | done | rfl | (simp only [List.length_drop, List.length_take]; rfl)) ?_; (with_reducible refine (octet_Class.calls (rd (drop1 l0) x20_2) t129 _ ?side1 A13.out).mono ?_); (case side1 => first | (with_reducible exact HG.out) | exact Glob.Globs_below HG.out (bl HB.out)); rintro e w24 ⟨rfl, hb⟩; refine ⟨_, rfl, ?_⟩; replace HB := Aside0.mk (below_step (bl HB.out) hb); (try clear hb); (try clear hb2); (try clear hk); (try clear hi)))
           go_ret
           exact ⟨by first | rfl | (simp [errW_none, errW_some] <;> rfl) | (simp [*, errW_none, errW_some] <;> rfl), bl HB.out⟩
         ·rw [if_neg c12] at H
          exact absurd H (by simp)
        ·rw [if_neg c11] at H
         exact absurd H (by simp)
       ·rw [if_neg c10] at H
        have c10b0 : decide (x20_2 < ((l0.drop 1).length : Int)) = false := decide_eq_false c10
        have c10b0n : decide (x20_2 < ((l0.length - 1 : Nat) : Int)) = false := by have z_ := c10b0; rwa [List.length_drop] at z_
        clear c10
        obtain rfl := Option.some.inj H
        go_wp2
        go_ret
        exact ⟨by first | rfl | (simp [errW_none, errW_some] <;> rfl) | (simp [*, errW_none, errW_some] <;> rfl), bl HB.out⟩
    ·rw [if_neg c8] at H
     exact absurd H (by simp)
end Go.Proofs.YtaojbcplmdjfnaaDoor.Pr

namespace Go.Proofs.YtaojbcplmdjfnaaDoor.Pr
open Go.RowKit Go.Proofs.YtaojbcplmdjfnaaDoorW.PrintWords Go.Proofs.YtaojbcplmdjfnaaDoorW.PrintLast Go.Proofs.YtaojbcplmdjfnaaDoorW.PrintMore
set_option linter.unusedVariables false
set_option linter.unusedSimpArgs false
def stepV (z c : Int) : Int := bits .or .i32 (wrap32 (z * 64)) (wrap32 (bits .and .u8 c 63))
def headV (x m : Int) : Int := wrap32 (bits .and .u8 x m)
def valL : List Int → Option Int
  | [x0] => some (headV x0 127)
  | [x0, x1] => some (stepV (headV x0 31) x1)
  | [x0, x1, x2] => some (stepV (stepV (headV x0 15) x1) x2)
  | [x0, x1, x2, x3] => some (stepV (stepV (stepV (headV x0 7) x1) x2) x3)
  | _ => none
def octet_Value.f (k : Nat) (l0 : List Int) : Option Int := (octet_Whole.f k l0).bind fun t => if t = true then valL l0 else some (-1)
theorem ret_i32 {a b : Int} (h : a = b) : Ending.returned (.int .i32 a) = .returned (.int .i32 b) := by rw [h]
set_option maxHeartbeats 8000000 in
set_option maxRecDepth 100000 in
theorem octet_Value.no (k : Nat) (A0 : Option Addr) (c0 : Nat) (l0 : List Int) (w : World) (hG : Glob.Globs w) (hr0 : Kd.C (Kd.int .u8) w A0 l0.length l0) (hc0 : l0.length ≤ c0) (h : octet_Whole.f k l0 = some false) :
    Calls Tryd.prog 45 #[.slice A0 l0.length c0] w fun e w' => e = .returned (.int .i32 (-1)) ∧ Below w.heap.size w w' := by
  have HG := Lib.hid hG
  have HR := Lib.hid hr0
  have HH := Lib.hid h
  have HC := Lib.hid hc0
  clear hG hr0 h hc0
  go_enter Tryd.func45, Tryd.ntmps45
  go_wp2_with (go_at_call 50; refine (octet_Whole.calls k _ _ _ false _ HG.out HR.out HC.out HH.out).mono ?_; rintro e w1 ⟨rfl, hb⟩)
  go_ret
  exact ⟨rfl, hb⟩
set_option maxHeartbeats 8000000 in
set_option maxRecDepth 100000 in
theorem octet_Value.yes1 (A0 : Option Addr) (c0 : Nat) (x0 : Int) (w : World) (hG : Glob.Globs w) (hr0 : Kd.C (Kd.int .u8) w A0 1 [x0]) (hc0 : 1 ≤ c0) (k : Nat) (h : octet_Whole.f k [x0] = some true) (r : Int) (hv : valL [x0] = some r) :
    Calls Tryd.prog 45 #[.slice A0 1 c0] w fun e w' => e = .returned (.int .i32 r) ∧ Below w.heap.size w w' := by
  have HV := Lib.hid (Option.some.inj hv)
  clear hv
  have HG := Lib.hid hG
  have HR := Lib.hid hr0
  have HH := Lib.hid h
  have HC := Lib.hid hc0
  clear hG hr0 h hc0
  obtain ⟨ad, rfl, hx0⟩ := Kd.at_int HR.out 0 (by omega) (by simp)
  go_enter Tryd.func45, Tryd.ntmps45
  go_wp2_with (go_at_call 50; refine (octet_Whole.calls k _ _ _ true _ HG.out HR.out HC.out HH.out).mono ?_; rintro e w1 ⟨rfl, hb⟩)
  have hG1 := Glob.Globs_below HG.out hb
  have hm : w1.cell? ⟨1, 1, none⟩ = some (.int .u8 127) := by rw [hG1.masks_cell]; rfl
  have hy0 := (hb.cell (World.block_lt_of_cell? w _ hx0)).trans hx0
  clear hx0 hG1
  obtain ⟨b, o, sp⟩ := ad
  have hsp : sp = none := by simpa [Addr.add] using World.cell?_spot hy0
  subst hsp
  have hz0 : w1.cell? ⟨b, o, none⟩ = some (.int .u8 x0) := by simpa [rd, Addr.add] using hy0
  clear hy0
  go_quiet (fail)
  all_goals go_wp2
  all_goals go_loop [3, 21] (fun r i => i = .int .i64 0 ∧ r = .int .i32 (headV x0 127)) (fun _ i => 1 - (intOf i).toNat)
  all_goals first
    | (case atStart => exact ⟨rfl, rfl⟩)
    | skip
  all_goals (obtain ⟨rfl, rfl⟩ := hrel; go_wp2; go_ret; exact ⟨ret_i32 HV.out, pw_below_drewN hb _⟩)
set_option maxHeartbeats 8000000 in
set_option maxRecDepth 100000 in
theorem octet_Value.yes2 (A0 : Option Addr) (c0 : Nat) (x0 x1 : Int) (w : World) (hG : Glob.Globs w) (hr0 : Kd.C (Kd.int .u8) w A0 2 [x0, x1]) (hc0 : 2 ≤ c0) (k : Nat) (h : octet_Whole.f k [x0, x1] = some true) (r : Int) (hv : valL [x0, x1] = some r) :
    Calls Tryd.prog 45 #[.slice A0 2 c0] w fun e w' => e = .returned (.int .i32 r) ∧ Below w.heap.size w w' := by
  have HV := Lib.hid (Option.some.inj hv)
  clear hv
  have HG := Lib.hid hG
  have HR := Lib.hid hr0
  have HH := Lib.hid h
  have HC := Lib.hid hc0
  clear hG hr0 h hc0
  obtain ⟨ad, rfl, hx0⟩ := Kd.at_int HR.out 0 (by omega) (by simp)
  obtain ⟨_, e1, hx1⟩ := Kd.at_int HR.out 1 (by omega) (by simp)
  cases e1
  go_enter Tryd.func45, Tryd.ntmps45
  go_wp2_with (go_at_call 50; refine (octet_Whole.calls k _ _ _ true _ HG.out HR.out HC.out HH.out).mono ?_; rintro e w1 ⟨rfl, hb⟩)
  have hG1 := Glob.Globs_below HG.out hb
  have hm : w1.cell? ⟨1, 2, none⟩ = some (.int .u8 31) := by rw [hG1.masks_cell]; rfl
  have hy0 := (hb.cell (World.block_lt_of_cell? w _ hx0)).trans hx0
  have hy1 := (hb.cell (World.block_lt_of_cell? w _ hx1)).trans hx1
  clear hx0 hx1 hG1
  obtain ⟨b, o, sp⟩ := ad
  have hsp : sp = none := by simpa [Addr.add] using World.cell?_spot hy0
  subst hsp
  have hz0 : w1.cell? ⟨b, o, none⟩ = some (.int .u8 x0) := by simpa [rd, Addr.add] using hy0
  have hz1 : w1.cell? ⟨b, o + 1, none⟩ = some (.int .u8 x1) := by simpa [rd, Addr.add, Nat.add_assoc] using hy1
  clear hy0 hy1
  have hne : ¬ c0 = 1 := by have := HC.out; omega
  go_quiet (fail)
  go_wp2
  go_loop [3, 21] (fun r i => ∃ j : Nat, i = .int .i64 j ∧ ((j = 0 ∧ r = .int .i32 (headV x0 31)) ∨ (j = 1 ∧ r = .int .i32 (stepV (headV x0 31) x1)))) (fun _ i => 1 - (intOf i).toNat)
  case atStart => exact ⟨0, rfl, .inl ⟨rfl, rfl⟩⟩
  case round =>
    obtain ⟨j, rfl, hj⟩ := hrel
    rcases hj with ⟨rfl, rfl⟩ | ⟨rfl, rfl⟩
    · go_wp2
      go_round
      case rel => exact ⟨1, rfl, .inr (⟨rfl, rfl⟩)⟩
      case measure => simp [intOf]
    · go_wp2
      go_ret
      exact ⟨ret_i32 HV.out, pw_below_drewN hb _⟩
set_option maxHeartbeats 8000000 in
set_option maxRecDepth 100000 in
theorem octet_Value.yes3 (A0 : Option Addr) (c0 : Nat) (x0 x1 x2 : Int) (w : World) (hG : Glob.Globs w) (hr0 : Kd.C (Kd.int .u8) w A0 3 [x0, x1, x2]) (hc0 : 3 ≤ c0) (k : Nat) (h : octet_Whole.f k [x0, x1, x2] = some true) (r : Int) (hv : valL [x0, x1, x2] = some r) :
    Calls Tryd.prog 45 #[.slice A0 3 c0] w fun e w' => e = .returned (.int .i32 r) ∧ Below w.heap.size w w' := by
  have HV := Lib.hid (Option.some.inj hv)
  clear hv
  have HG := Lib.hid hG
  have HR := Lib.hid hr0
  have HH := Lib.hid h
  have HC := Lib.hid hc0
  clear hG hr0 h hc0
  obtain ⟨ad, rfl, hx0⟩ := Kd.at_int HR.out 0 (by omega) (by simp)
  obtain ⟨_, e1, hx1⟩ := Kd.at_int HR.out 1 (by omega) (by simp)
  cases e1
  obtain ⟨_, e2, hx2⟩ := Kd.at_int HR.out 2 (by omega) (by simp)
  cases e2
  go_enter Tryd.func45, Tryd.ntmps45
  go_wp2_with (go_at_call 50; refine (octet_Whole.calls k _ _ _ true _ HG.out HR.out HC.out HH.out).mono ?_; rintro e w1 ⟨rfl, hb⟩)
  have hG1 := Glob.Globs_below HG.out hb
  have hm : w1.cell? ⟨1, 3, none⟩ = some (.int .u8 15) := by rw [hG1.masks_cell]; rfl
  have hy0 := (hb.cell (World.block_lt_of_cell? w _ hx0)).trans hx0
  have hy1 := (hb.cell (World.block_lt_of_cell? w _ hx1)).trans hx1
  have hy2 := (hb.cell (World.block_lt_of_cell? w _ hx2)).trans hx2
  clear hx0 hx1 hx2 hG1
  obtain ⟨b, o, sp⟩ := ad
  have hsp : sp = none := by simpa [Addr.add] using World.cell?_spot hy0
  subst hsp
  have hz0 : w1.cell? ⟨b, o, none⟩ = some (.int .u8 x0) := by simpa [rd, Addr.add] using hy0
  have hz1 : w1.cell? ⟨b, o + 1, none⟩ = some (.int .u8 x1) := by simpa [rd, Addr.add, Nat.add_assoc] using hy1
  have hz2 : w1.cell? ⟨b, o + 1 + 1, none⟩ = some (.int .u8 x2) := by simpa [rd, Addr.add, Nat.add_assoc] using hy2
  clear hy0 hy1 hy2
  have hne : ¬ c0 = 1 := by have := HC.out; omega
  go_quiet (fail)
  go_wp2
  go_loop [3, 21] (fun r i => ∃ j : Nat, i = .int .i64 j ∧ ((j = 0 ∧ r = .int .i32 (headV x0 15)) ∨ (j = 1 ∧ r = .int .i32 (stepV (headV x0 15) x1)) ∨ (j = 2 ∧ r = .int .i32 (stepV (stepV (headV x0 15) x1) x2)))) (fun _ i => 2 - (intOf i).toNat)
  case atStart => exact ⟨0, rfl, .inl ⟨rfl, rfl⟩⟩
  case round =>
    obtain ⟨j, rfl, hj⟩ := hrel
    rcases hj with ⟨rfl, rfl⟩ | ⟨rfl, rfl⟩ | ⟨rfl, rfl⟩
    · go_wp2
      go_round
      case rel => exact ⟨1, rfl, .inr (.inl ⟨rfl, rfl⟩)⟩
      case measure => simp [intOf]
    · go_wp2
      go_round
      case rel => exact ⟨2, rfl, .inr (.inr (⟨rfl, rfl⟩))⟩
      case measure => simp [intOf]
    · go_wp2
      go_ret
      exact ⟨ret_i32 HV.out, pw_below_drewN hb _⟩
set_option maxHeartbeats 8000000 in
set_option maxRecDepth 100000 in
theorem octet_Value.yes4 (A0 : Option Addr) (c0 : Nat) (x0 x1 x2 x3 : Int) (w : World) (hG : Glob.Globs w) (hr0 : Kd.C (Kd.int .u8) w A0 4 [x0, x1, x2, x3]) (hc0 : 4 ≤ c0) (k : Nat) (h : octet_Whole.f k [x0, x1, x2, x3] = some true) (r : Int) (hv : valL [x0, x1, x2, x3] = some r) :
    Calls Tryd.prog 45 #[.slice A0 4 c0] w fun e w' => e = .returned (.int .i32 r) ∧ Below w.heap.size w w' := by
  have HV := Lib.hid (Option.some.inj hv)
  clear hv
  have HG := Lib.hid hG
  have HR := Lib.hid hr0
  have HH := Lib.hid h
  have HC := Lib.hid hc0
  clear hG hr0 h hc0
  obtain ⟨ad, rfl, hx0⟩ := Kd.at_int HR.out 0 (by omega) (by simp)
  obtain ⟨_, e1, hx1⟩ := Kd.at_int HR.out 1 (by omega) (by simp)
  cases e1
  obtain ⟨_, e2, hx2⟩ := Kd.at_int HR.out 2 (by omega) (by simp)
  cases e2
  obtain ⟨_, e3, hx3⟩ := Kd.at_int HR.out 3 (by omega) (by simp)
  cases e3
  go_enter Tryd.func45, Tryd.ntmps45
  go_wp2_with (go_at_call 50; refine (octet_Whole.calls k _ _ _ true _ HG.out HR.out HC.out HH.out).mono ?_; rintro e w1 ⟨rfl, hb⟩)
  have hG1 := Glob.Globs_below HG.out hb
  have hm : w1.cell? ⟨1, 4, none⟩ = some (.int .u8 7) := by rw [hG1.masks_cell]; rfl
  have hy0 := (hb.cell (World.block_lt_of_cell? w _ hx0)).trans hx0
  have hy1 := (hb.cell (World.block_lt_of_cell? w _ hx1)).trans hx1
  have hy2 := (hb.cell (World.block_lt_of_cell? w _ hx2)).trans hx2
  have hy3 := (hb.cell (World.block_lt_of_cell? w _ hx3)).trans hx3
  clear hx0 hx1 hx2 hx3 hG1
  obtain ⟨b, o, sp⟩ := ad
  have hsp : sp = none := by simpa [Addr.add] using World.cell?_spot hy0
  subst hsp
  have hz0 : w1.cell? ⟨b, o, none⟩ = some (.int .u8 x0) := by simpa [rd, Addr.add] using hy0
  have hz1 : w1.cell? ⟨b, o + 1, none⟩ = some (.int .u8 x1) := by simpa [rd, Addr.add, Nat.add_assoc] using hy1
  have hz2 : w1.cell? ⟨b, o + 1 + 1, none⟩ = some (.int .u8 x2) := by simpa [rd, Addr.add, Nat.add_assoc] using hy2
  have hz3 : w1.cell? ⟨b, o + 1 + 2, none⟩ = some (.int .u8 x3) := by simpa [rd, Addr.add, Nat.add_assoc] using hy3
  clear hy0 hy1 hy2 hy3
  have hne : ¬ c0 = 1 := by have := HC.out; omega
  go_quiet (fail)
  go_wp2
  go_loop [3, 21] (fun r i => ∃ j : Nat, i = .int .i64 j ∧ ((j = 0 ∧ r = .int .i32 (headV x0 7)) ∨ (j = 1 ∧ r = .int .i32 (stepV (headV x0 7) x1)) ∨ (j = 2 ∧ r = .int .i32 (stepV (stepV (headV x0 7) x1) x2)) ∨ (j = 3 ∧ r = .int .i32 (stepV (stepV (stepV (headV x0 7) x1) x2) x3)))) (fun _ i => 3 - (intOf i).toNat)
  case atStart => exact ⟨0, rfl, .inl ⟨rfl, rfl⟩⟩
  case round =>
    obtain ⟨j, rfl, hj⟩ := hrel
    rcases hj with ⟨rfl, rfl⟩ | ⟨rfl, rfl⟩ | ⟨rfl, rfl⟩ | ⟨rfl, rfl⟩
    · go_wp2
      go_round
      case rel => exact ⟨1, rfl, .inr (.inl ⟨rfl, rfl⟩)⟩
      case measure => simp [intOf]
    · go_wp2
      go_round
      case rel => exact ⟨2, rfl, .inr (.inr (.inl ⟨rfl, rfl⟩))⟩
      case measure => simp [intOf]
    · go_wp2
      go_round
      case rel => exact ⟨3, rfl, .inr (.inr (.inr (⟨rfl, rfl⟩)))⟩
      case measure => simp [intOf]
    · go_wp2
      go_ret
      exact ⟨ret_i32 HV.out, pw_below_drewN hb _⟩
theorem octet_Value.calls (k : Nat) (A0 : Option Addr) (c0 : Nat) (l0 : List Int) (r : Int) (w : World) (hG : Glob.Globs w) (hr0 : Kd.C (Kd.int .u8) w A0 l0.length l0) (hc0 : l0.length ≤ c0) (h : octet_Value.f k l0 = some r) :
    Calls Tryd.prog 45 #[.slice A0 l0.length c0] w fun e w' => e = .returned (.int .i32 r) ∧ Below w.heap.size w w' := by
  obtain ⟨t, ht, hr⟩ := Option.bind_eq_some_iff.mp h
  cases t with
  | false =>
    obtain rfl : -1 = r := by simpa using hr
    exact octet_Value.no k A0 c0 l0 w hG hr0 hc0 ht
  | true =>
    replace hr : valL l0 = some r := by simpa using hr
    match l0, hr0, hc0, ht, hr with
    | [], _, _, _, hr => simp [valL] at hr
    | [x0], hr0, hc0, ht, hr => exact octet_Value.yes1 A0 c0 x0 w hG hr0 hc0 k ht r hr
    | [x0, x1], hr0, hc0, ht, hr => exact octet_Value.yes2 A0 c0 x0 x1 w hG hr0 hc0 k ht r hr
    | [x0, x1, x2], hr0, hc0, ht, hr => exact octet_Value.yes3 A0 c0 x0 x1 x2 w hG hr0 hc0 k ht r hr
    | [x0, x1, x2, x3], hr0, hc0, ht, hr => exact octet_Value.yes4 A0 c0 x0 x1 x2 x3 w hG hr0 hc0 k ht r hr
    | _ :: _ :: _ :: _ :: _ :: _, _, _, _, hr => simp [valL] at hr
end Go.Proofs.YtaojbcplmdjfnaaDoor.Pr

namespace Go.Proofs.YtaojbcplmdjfnaaDoor.Pr
open Go.RowKit Go.Proofs.YtaojbcplmdjfnaaDoorW.PrintWords Go.Proofs.YtaojbcplmdjfnaaDoorW.PrintLast Go.Proofs.YtaojbcplmdjfnaaDoorW.PrintMore
attribute [local go_sem] max2_int min2_int max_two min_two max_three min_three max_four min_four   -- for this text's walks alone
set_option linter.unusedVariables false
set_option linter.unusedSimpArgs false
def weld_tailIs.f (a0 : ByteArray) (a1 : Int) : Option (Bool) := if (a0.size : Int) > 0 then (if 0 ≤ (wrap64 ((a0.size : Int) - 1)) then (if (wrap64 ((a0.size : Int) - 1)) < (a0.size : Int) then (some ((bt a0 (wrap64 ((a0.size : Int) - 1))) == a1)) else (none)) else (none)) else (some false)
set_option maxHeartbeats 8000000 in
set_option maxRecDepth 100000 in
theorem weld_tailIs.calls (a0 : ByteArray) (a1 : Int) (r : Bool) (w : World) (h : weld_tailIs.f a0 a1 = some r) :
  Calls Tryd.prog 46 #[.string a0, .int .u8 a1] w fun e w' => e = .returned (.bool r) ∧ Drawn0 w w' := by
 have H : (if (a0.size : Int) > 0 then (if 0 ≤ (wrap64 ((a0.size : Int) - 1)) then (if (wrap64 ((a0.size : Int) - 1)) < (a0.size : Int) then (some ((bt a0 (wrap64 ((a0.size : Int) - 1))) == a1)) else (none)) else (none)) else (some false)) = some r := h
 clear h
 by_cases c3 : (a0.size : Int) > 0
 ·rw [if_pos c3] at H
  have c3b0 : decide (0 < (a0.size : Int)) = true := decide_eq_true c3
  have c3b1 : decide (0 < a0.size) = true := decide_eq_true (by omega)
  clear c3
  obtain ⟨ji4, hji4⟩ : ∃ j_ : Int, (wrap64 ((a0.size : Int) - 1)) = j_ := ⟨_, rfl⟩
  replace H : (if 0 ≤ (ji4) then (if (ji4) < (a0.size : Int) then (some ((bt a0 (ji4)) == a1)) else (none)) else (none)) = some r := by first | (rw [hji4] at H; exact H) | (simp only [hji4] at H ⊢; exact H)
  have hji4w : (IntKind.i64.wrap ((a0.size : Int) - 1)) = ji4 := (i64_w _).trans hji4
  by_cases c5 : 0 ≤ (ji4)
  ·rw [if_pos c5] at H
   have c5b0 : decide (0 ≤ (ji4)) = true := decide_eq_true c5
   clear c5
   by_cases c6 : (ji4) < (a0.size : Int)
   ·rw [if_pos c6] at H
    have c6b0 : decide ((ji4) < (a0.size : Int)) = true := decide_eq_true c6
    clear c6
    obtain rfl := Option.some.inj H
    have p7 : 0 ≤ ((ji4) : Int) := of_decide_eq_true (by first | (with_reducible assumption) | assumption)
    have q7 : (ji4) < (a0.size : Int) := of_decide_eq_true (by first | (with_reducible assumption) | assumption)
    have hx7 := bt_at a0 (ji4)
    replace p7 := eq_true p7
    replace q7 := eq_true q7
    go_enter Tryd.func46, Tryd.ntmps46
    go_wp2
    go_ret
    exact ⟨by first | rfl | (simp; done) | (simp only [← hji4] <;> (first | rfl | simp)) | (simp [*]; done), by repeat (first | exact Drawn0.refl _ | apply Drawn0.step)⟩
   ·rw [if_neg c6] at H
    exact absurd H (by simp)
  ·rw [if_neg c5] at H
   exact absurd H (by simp)
 ·rw [if_neg c3] at H
  have c3b0 : decide (0 < (a0.size : Int)) = false := decide_eq_false c3
  have c3b1 : decide (0 < a0.size) = false := decide_eq_false (by omega)
  clear c3
  obtain rfl := Option.some.inj H
  go_enter Tryd.func46, Tryd.ntmps46
  go_wp2
  go_ret
  exact ⟨by first | rfl | (simp; done) | (simp [*]; done), by repeat (first | exact Drawn0.refl _ | apply Drawn0.step)⟩
mutual
def weld_seam.l0 : Nat → Int → Int → Int → Int → Int → ByteArray → ByteArray → Int → Int → Int → Int → ByteArray → ByteArray → Int → Int → Int → Int → Option (Int × Int × Int × Int)
 | 0, _, _, _, _, _, _, _, _, _, _, _, _, _, _, _, _, _ => none
 | k + 1, x6, x133000, x133001, x133002, x133003, x133004, x133005, x134000, x134001, x134002, x134003, x134004, x134005, x136000, x136001, x136002, x136003 => if x6 ≤ (x133005.size : Int) then (weld_seam.l1 k x6 1 x133000 x133001 x133002 x133003 x133004 x133005 x134000 x134001 x134002 x134003 x134004 x134005 x136000 x136001 x136002 x136003) else ((weld_tailIs.f x133005 13).bind fun t136 => (if t136 = true then (if (x134004.size : Int) > 0 then (if 0 < (x134004.size : Int) then (if (bt x134004 0) = 10 then (some (x136000, x136001, x136002, 1)) else (some (x136000, x136001, x136002, x136003))) else (none)) else (some (x136000, x136001, x136002, x136003))) else (some (x136000, x136001, x136002, x136003))))
def weld_seam.l1 : Nat → Int → Int → Int → Int → Int → Int → ByteArray → ByteArray → Int → Int → Int → Int → ByteArray → ByteArray → Int → Int → Int → Int → Option (Int × Int × Int × Int)
 | 0, _, _, _, _, _, _, _, _, _, _, _, _, _, _, _, _, _, _ => none
 | k + 1, x6, x7, x133000, x133001, x133002, x133003, x133004, x133005, x134000, x134001, x134002, x134003, x134004, x134005, x136000, x136001, x136002, x136003 => if x7 ≤ (x134004.size : Int) then (if 0 ≤ (wrap64 ((x133005.size : Int) - x6)) then (if (wrap64 ((x133005.size : Int) - x6)) ≤ (x133005.size : Int) then (if 0 ≤ x7 then (if (x133005.extract ((wrap64 ((x133005.size : Int) - x6)) : Int).toNat x133005.size).size + (x134004.extract 0 (x7 : Int).toNat).size ≤ 9223372036854775807 then (if ((x133005.extract ((wrap64 ((x133005.size : Int) - x6)) : Int).toNat x133005.size) ++ (x134004.extract 0 (x7 : Int).toNat)).size ≤ 9223372036854775807 then ((octet_Value.f k (bytesOf ((x133005.extract ((wrap64 ((x133005.size : Int) - x6)) : Int).toNat x133005.size) ++ (x134004.extract 0 (x7 : Int).toNat)))).bind fun t140 => (if t140 ≥ 0 then ((weld_units.f t140).bind fun t141 => (weld_seam.l1 k x6 (wrap64 (x7 + 1)) x133000 x133001 x133002 x133003 x133004 x133005 x134000 x134001 x134002 x134003 x134004 x134005 x136000 (wrap64 ((wrap64 (x6 + x7)) - 1)) (wrap64 ((wrap64 (x6 + x7)) - t141)) x136003)) else (weld_seam.l1 k x6 (wrap64 (x7 + 1)) x133000 x133001 x133002 x133003 x133004 x133005 x134000 x134001 x134002 x134003 x134004 x134005 x136000 x136001 x136002 x136003))) else (none)) else (none)) else (none)) else (none)) else (none)) else (weld_seam.l0 k (wrap64 (x6 + 1)) x133000 x133001 x133002 x133003 x133004 x133005 x134000 x134001 x134002 x134003 x134004 x134005 x136000 x136001 x136002 x136003)
end
def weld_seam.f (k : Nat) (a0_0 : Int) (a0_1 : Int) (a0_2 : Int) (a0_3 : Int) (a0_4 : ByteArray) (a0_5 : ByteArray) (a1_0 : Int) (a1_1 : Int) (a1_2 : Int) (a1_3 : Int) (a1_4 : ByteArray) (a1_5 : ByteArray) : Option (Int × Int × Int × Int) := weld_seam.l0 k 1 a0_0 a0_1 a0_2 a0_3 a0_4 a0_5 a1_0 a1_1 a1_2 a1_3 a1_4 a1_5 0 0 0 0
def weld_seam.T8 : Bool × List (List Nat × List Nat) := (true, [([], []), ([0], [0]), ([], []), ([2], [2]), ([3], [3]), ([], []), ([4, 5], [4, 5]), ([1, 6], [1, 6]), ([], []), ([8], [8]), ([], []), ([9, 10], [9, 10]), ([7, 11], [7, 11]), ([12], [12]), ([13], [13]), ([14, 14, 0, 1, 2, 3, 4, 5, 6, 7, 8, 9, 10, 11, 12, 13, 14], [14])])
def weld_seam.B8 : List Nat := [0, 1, 0, 4, 12, 0, 60, 127, 0, 256, 0, 1792, 4095, 8191, 16383, 32767]
theorem weld_seam.tab8 : rtab .any (opsOf Tryd.f38 8) = weld_seam.T8 := by kernel_rfl
theorem weld_seam.bits8 : waitsOk weld_seam.T8.2 weld_seam.B8 = true := by kernel_rfl
set_option maxHeartbeats 8000000 in
set_option maxRecDepth 100000 in
theorem weld_seam.calls (k : Nat) (a0_0 : Int) (a0_1 : Int) (a0_2 : Int) (a0_3 : Int) (a0_4 : ByteArray) (a0_5 : ByteArray) (a1_0 : Int) (a1_1 : Int) (a1_2 : Int) (a1_3 : Int) (a1_4 : ByteArray) (a1_5 : ByteArray) (r1 : Int) (r2 : Int) (r3 : Int) (r4 : Int) (w : World) (hG : Glob.Globs w) (h : weld_seam.f k a0_0 a0_1 a0_2 a0_3 a0_4 a0_5 a1_0 a1_1 a1_2 a1_3 a1_4 a1_5 = some (r1, r2, r3, r4)) :
  Calls Tryd.prog 38 #[.agg #[.int .i64 a0_0, .int .i64 a0_1, .int .i64 a0_2, .int .i64 a0_3, .string a0_4, .string a0_5], .agg #[.int .i64 a1_0, .int .i64 a1_1, .int .i64 a1_2, .int .i64 a1_3, .string a1_4, .string a1_5]] w fun e w' => e = .returned (.agg #[.int .i64 r1, .int .i64 r2, .int .i64 r3, .int .i64 r4]) ∧ Below w.heap.size w w' := by
 have hu26 := Tryd.underlying26
 have hu24 := Tryd.underlying24
 have HG := Aside0.mk hG; clear hG
 have HB := Aside0.mk (Below.refl w.heap.size w)
 have H : (weld_seam.l0 k 1 a0_0 a0_1 a0_2 a0_3 a0_4 a0_5 a1_0 a1_1 a1_2 a1_3 a1_4 a1_5 0 0 0 0) = some (r1, r2, r3, r4) := h
 clear h; have H' := Aside0.mk H; clear H
 go_enter Tryd.func38, Tryd.ntmps38
 go_wp2_with (first | ((with_reducible refine gate_dst (N := 2) rfl ?_); (try (refine gate_guard (by rfl) ?_; dsimp only)); refine box_event ?hg (N := 2) ?hd (cs := #[.int .i64 a0_0, .int .i64 a0_1, .int .i64 a0_2, .int .i64 a0_3, .string a0_4, .string a0_5]) (t := 26) ?hr ?_; (case hd => rfl); (case hg => rfl); (case hr => first | (go_simp; done) | (go_simp; rfl)); intro gb132 hg w3 hbox hb; have BK132 := Aside0.mk (hbox); have GW132 := Aside0.mk ((by rw [hg]; exact (below_size (bl HB.out)) : w.heap.size ≤ gb132)); have GE132 := GW132; replace HB := Aside0.mk (below_step (bl HB.out) hb); clear hb hbox hg) | ((with_reducible refine gate_dst (N := 3) rfl ?_); (try (refine gate_guard (by rfl) ?_; dsimp only)); refine box_event ?hg (N := 3) ?hd (cs := #[.int .i64 a1_0, .int .i64 a1_1, .int .i64 a1_2, .int .i64 a1_3, .string a1_4, .string a1_5]) (t := 26) ?hr ?_; (case hd => rfl); (case hg => rfl); (case hr => first | (go_simp; done) | (go_simp; rfl)); intro gb133 hg w4 hbox hb; have BK133 := Aside0.mk (hbox); have GW133 := Aside0.mk ((by rw [hg]; exact (below_size (by repeat (first | (with_reducible first | exact HB.out | apply below_alloc | apply pw_below_drewN | apply below_drew1 | refine below_set ?_ GE132.out) | exact HB.out))) : w.heap.size ≤ gb133)); have GE133 := GW133; replace HB := Aside0.mk (below_step (by repeat (first | (with_reducible first | exact HB.out | apply below_alloc | apply pw_below_drewN | apply below_drew1 | refine below_set ?_ GE132.out) | exact HB.out)) hb); obtain ⟨NB132_133, NB133_132⟩ := nbp hg (pl BK132.out); replace BK132 := Aside0.mk (blk_below (pl BK132.out) hb); clear hb hbox hg) | ((with_reducible refine gate_dst (N := 4) rfl ?_); (try (refine gate_guard (by rfl) ?_; dsimp only)); refine box_event ?hg (N := 4) ?hd (cs := #[.int .i64 0, .int .i64 0, .int .i64 0, .int .i64 0]) (t := 24) ?hr ?_; (case hd => rfl); (case hg => rfl); (case hr => first | (go_simp; done) | (go_simp; rfl)); intro gb134 hg w5 hbox hb; have BK134 := Aside0.mk (hbox); have GW134 := Aside0.mk ((by rw [hg]; exact (below_size (by repeat (first | (with_reducible first | exact HB.out | apply below_alloc | apply pw_below_drewN | apply below_drew1 | refine below_set ?_ GE132.out | refine below_set ?_ GE133.out) | exact HB.out))) : w.heap.size ≤ gb134)); have GE134 := GW134; replace HB := Aside0.mk (below_step (by repeat (first | (with_reducible first | exact HB.out | apply below_alloc | apply pw_below_drewN | apply below_drew1 | refine below_set ?_ GE132.out | refine below_set ?_ GE133.out) | exact HB.out)) hb); obtain ⟨NB132_134, NB134_132⟩ := nbp hg (pl BK132.out); replace BK132 := Aside0.mk (blk_below (pl BK132.out) hb); obtain ⟨NB133_134, NB134_133⟩ := nbp hg (pl BK133.out); replace BK133 := Aside0.mk (blk_below (pl BK133.out) hb); clear hb hbox hg) | ((with_reducible refine gate_dst (N := 5) rfl ?_); (try (refine gate_guard (by rfl) ?_; dsimp only)); refine box_event ?hg (N := 5) ?hd (cs := #[.int .i64 0, .int .i64 0, .int .i64 0, .int .i64 0]) (t := 24) ?hr ?_; (case hd => rfl); (case hg => rfl); (case hr => first | (go_simp; done) | (go_simp; rfl)); intro gb135 hg w6 hbox hb; have BK135 := Aside0.mk (hbox); have GW135 := Aside0.mk ((by rw [hg]; exact (below_size (by repeat (first | (with_reducible first | exact HB.out | apply below_alloc | apply pw_below_drewN | apply below_drew1 | refine below_set ?_ GE132.out | refine below_set ?_ GE133.out | refine below_set ?_ GE134.out) | exact HB.out))) : w.heap.size ≤ gb135)); have GE135 := GW135; replace HB := Aside0.mk (below_step (by repeat (first | (with_reducible first | exact HB.out | apply below_alloc | apply pw_below_drewN | apply below_drew1 | refine below_set ?_ GE132.out | refine below_set ?_ GE133.out | refine below_set ?_ GE134.out) | exact HB.out)) hb); obtain ⟨NB132_135, NB135_132⟩ := nbp hg (pl BK132.out); replace BK132 := Aside0.mk (blk_below (pl BK132.out) hb); obtain ⟨NB133_135, NB135_133⟩ := nbp hg (pl BK133.out); replace BK133 := Aside0.mk (blk_below (pl BK133.out) hb); obtain ⟨NB134_135, NB135_134⟩ := nbp hg (pl BK134.out); replace BK134 := Aside0.mk (blk_below (pl BK134.out) hb); clear hb hbox hg))
 go_loopg [6] k (fun kq v6 w' => ∃ (x6_1 : Int) (x136001_1 : Int) (x136002_1 : Int), v6 = .int .i64 x6_1 ∧ Aside0 (weld_seam.l0 kq x6_1 a0_0 a0_1 a0_2 a0_3 a0_4 a0_5 a1_0 a1_1 a1_2 a1_3 a1_4 a1_5 0 x136001_1 x136002_1 0 = some (r1, r2, r3, r4)) ∧ Aside0 (kq ≤ k) ∧ Aside0 (w'.heap[gb132]? = some (.cells #[.int .i64 a0_0, .int .i64 a0_1, .int .i64 a0_2, .int .i64 a0_3, .string a0_4, .string a0_5] 26 (0, 0))) ∧ Aside0 (w'.heap[gb133]? = some (.cells #[.int .i64 a1_0, .int .i64 a1_1, .int .i64 a1_2, .int .i64 a1_3, .string a1_4, .string a1_5] 26 (0, 0))) ∧ Aside0 (w'.heap[gb134]? = some (.cells #[.int .i64 0, .int .i64 0, .int .i64 0, .int .i64 0] 24 (0, 0))) ∧ Aside0 (w'.heap[gb135]? = some (.cells #[.int .i64 0, .int .i64 x136001_1, .int .i64 x136002_1, .int .i64 0] 24 (0, 0))) ∧ Aside0 (Below w.heap.size w w'))
 case atStart => exact ⟨(1), (0), (0), (by first | rfl | (simp; done) | (simp [*]; done)), H', ⟨Nat.le_refl _⟩, ⟨pl BK132.out⟩, ⟨pl BK133.out⟩, ⟨pl BK134.out⟩, ⟨pl BK135.out⟩, ⟨by repeat (first | (with_reducible first | exact HB.out | apply below_alloc | apply pw_below_drewN | apply below_drew1 | refine below_set ?_ GE132.out | refine below_set ?_ GE133.out | refine below_set ?_ GE134.out | refine below_set ?_ GE135.out) | exact HB.out)⟩⟩
 case round =>
  clear H'
  (try clear p2); (try clear c3)
  obtain ⟨x6_1, x136001_1, x136002_1, rfl, HA, HK1, BK132, BK133, BK134, BK135, HB⟩ := hrel
  cases gk with
  | zero => exact absurd HA.out (by simp [weld_seam.l0])
  | succ k1 =>
   have H := HA.out; clear HA
   simp only [weld_seam.l0] at H
   by_cases c7 : x6_1 ≤ (a0_5.size : Int)
   ·rw [if_pos c7] at H
    have c7b0 : decide (x6_1 ≤ (a0_5.size : Int)) = true := decide_eq_true c7
    clear c7; have H' := Aside0.mk H; clear H; have hnb8 := NB132_133.out; have hnc8 := NB133_132.out; have hnb9 := NB132_134.out; have hnc9 := NB134_132.out; have hnb10 := NB132_135.out; have hnc10 := NB135_132.out; obtain ⟨hcz11_0, hcz11_1, hcz11_2, hcz11_3, hcz11_4, hcz11_5⟩ := c6 BK132.out; obtain ⟨hfz11_0, hfz11_1, hfz11_2, hfz11_3, hfz11_4, hfz11_5⟩ := f6 BK132.out
    go_wp2
    go_loopg [7] k1 (fun kq v7 w' => ∃ (x7_2 : Int) (x136001_2 : Int) (x136002_2 : Int), v7 = .int .i64 x7_2 ∧ Aside0 (weld_seam.l1 kq x6_1 x7_2 a0_0 a0_1 a0_2 a0_3 a0_4 a0_5 a1_0 a1_1 a1_2 a1_3 a1_4 a1_5 0 x136001_2 x136002_2 0 = some (r1, r2, r3, r4)) ∧ Aside0 (kq ≤ k1) ∧ Aside0 (w'.heap[gb132]? = some (.cells #[.int .i64 a0_0, .int .i64 a0_1, .int .i64 a0_2, .int .i64 a0_3, .string a0_4, .string a0_5] 26 (0, 0))) ∧ Aside0 (w'.heap[gb133]? = some (.cells #[.int .i64 a1_0, .int .i64 a1_1, .int .i64 a1_2, .int .i64 a1_3, .string a1_4, .string a1_5] 26 (0, 0))) ∧ Aside0 (w'.heap[gb134]? = some (.cells #[.int .i64 0, .int .i64 0, .int .i64 0, .int .i64 0] 24 (0, 0))) ∧ Aside0 (w'.heap[gb135]? = some (.cells #[.int .i64 0, .int .i64 x136001_2, .int .i64 x136002_2, .int .i64 0] 24 (0, 0))) ∧ Aside0 (Below w.heap.size w w'))
    case atStart => exact ⟨(1), (x136001_1), (x136002_1), (by first | rfl | (simp; done) | (simp [*]; done)), H', ⟨Nat.le_refl _⟩, ⟨pl BK132.out⟩, ⟨pl BK133.out⟩, ⟨pl BK134.out⟩, ⟨pl BK135.out⟩, ⟨by repeat (first | (with_reducible first | exact HB.out | apply below_alloc | apply pw_below_drewN | apply below_drew1 | refine below_set ?_ GE132.out | refine below_set ?_ GE133.out | refine below_set ?_ GE134.out | refine below_set ?_ GE135.out) | exact HB.out)⟩⟩
    case round =>
     clear H'
     (try clear c1); (try clear p2); (try clear c3); (try clear c7); (try clear c7b0); (try clear c8); (try clear c9); (try clear c10); (try clear hcz11_0); (try clear hcz11_1); (try clear hcz11_2); (try clear hcz11_3); (try clear hcz11_4); (try clear hcz11_5); (try clear hfz11_0); (try clear hfz11_1); (try clear hfz11_2); (try clear hfz11_3); (try clear hfz11_4); (try clear hfz11_5); (try clear p2)
     obtain ⟨x7_2, x136001_2, x136002_2, rfl, HA, HK2, BK132, BK133, BK134, BK135, HB⟩ := hrel
     cases gk with
     | zero => exact absurd HA.out (by simp [weld_seam.l1])
     | succ k2 =>
      have H := HA.out; clear HA
      simp only [weld_seam.l1] at H
      by_cases c12 : x7_2 ≤ (a1_4.size : Int)
      ·rw [if_pos c12] at H
       have c12b0 : decide (x7_2 ≤ (a1_4.size : Int)) = true := decide_eq_true c12
       clear c12
       obtain ⟨ji13, hji13⟩ : ∃ j_ : Int, (wrap64 ((a0_5.size : Int) - x6_1)) = j_ := ⟨_, rfl⟩
       replace H : (if 0 ≤ (ji13) then (if (ji13) ≤ (a0_5.size : Int) then (if 0 ≤ x7_2 then (if (a0_5.extract ((ji13) : Int).toNat a0_5.size).size + (a1_4.extract 0 (x7_2 : Int).toNat).size ≤ 9223372036854775807 then (if ((a0_5.extract ((ji13) : Int).toNat a0_5.size) ++ (a1_4.extract 0 (x7_2 : Int).toNat)).size ≤ 9223372036854775807 then ((octet_Value.f k2 (bytesOf ((a0_5.extract ((ji13) : Int).toNat a0_5.size) ++ (a1_4.extract 0 (x7_2 : Int).toNat)))).bind fun t140 => (if t140 ≥ 0 then ((weld_units.f t140).bind fun t141 => (weld_seam.l1 k2 x6_1 (wrap64 (x7_2 + 1)) a0_0 a0_1 a0_2 a0_3 a0_4 a0_5 a1_0 a1_1 a1_2 a1_3 a1_4 a1_5 0 (wrap64 ((wrap64 (x6_1 + x7_2)) - 1)) (wrap64 ((wrap64 (x6_1 + x7_2)) - t141)) 0)) else (weld_seam.l1 k2 x6_1 (wrap64 (x7_2 + 1)) a0_0 a0_1 a0_2 a0_3 a0_4 a0_5 a1_0 a1_1 a1_2 a1_3 a1_4 a1_5 0 x136001_2 x136002_2 0))) else (none)) else (none)) else (none)) else (none)) else (none)) = some (r1, r2, r3, r4) := by first | (rw [hji13] at H; exact H) | (simp only [hji13] at H ⊢; exact H)
       have hji13w : (IntKind.i64.wrap ((a0_5.size : Int) - x6_1)) = ji13 := (i64_w _).trans hji13
       by_cases c14 : 0 ≤ (ji13)
       ·rw [if_pos c14] at H
        have c14b0 := eq_true c14
        have c14b1 : decide (0 ≤ (ji13)) = true := decide_eq_true c14
        clear c14
        by_cases c15 : (ji13) ≤ (a0_5.size : Int)
        ·rw [if_pos c15] at H
         have c15b0 := eq_true c15
         have c15b1 : decide ((ji13) ≤ (a0_5.size : Int)) = true := decide_eq_true c15
         clear c15
         by_cases c16 : 0 ≤ x7_2
         ·rw [if_pos c16] at H
          have c16b0 := eq_true c16
          have c16b1 : decide (0 ≤ x7_2) = true := decide_eq_true c16
          clear c16
          have c17b0 := eq_true (of_decide_eq_true (by first | (with_reducible assumption) | assumption) : x7_2 ≤ (a1_4.size : Int))
          by_cases c18 : (a0_5.extract ((ji13) : Int).toNat a0_5.size).size + (a1_4.extract 0 (x7_2 : Int).toNat).size ≤ 9223372036854775807
          ·rw [if_pos c18] at H
           have c18b0 := eq_true c18
           have c18b1 : decide ((a0_5.extract ((ji13) : Int).toNat a0_5.size).size + (a1_4.extract 0 (x7_2 : Int).toNat).size ≤ 9223372036854775807) = true := decide_eq_true c18
           try have c18b2 : (9223372036854775807 < (a0_5.extract ((ji13) : Int).toNat a0_5.size).size + (a1_4.extract 0 (x7_2 : Int).toNat).size) = False := eq_false (Nat.not_lt.2 c18)
           have c18b3 : (9223372036854775807 < a0_5.size - ji13.toNat + x7_2.toNat) = False := eq_false (by have z_ := c18; have z2_ : x7_2 ≤ (a1_4.size : Int) := of_decide_eq_true (by first | (with_reducible assumption) | assumption); simp only [ByteArray.size_extract] at z_; omega)
           by_cases c19 : ((a0_5.extract ((ji13) : Int).toNat a0_5.size) ++ (a1_4.extract 0 (x7_2 : Int).toNat)).size ≤ 9223372036854775807
           ·rw [if_pos c19] at H
            have c19b0 := eq_true c19
            have c19b1 : decide (((a0_5.extract ((ji13) : Int).toNat a0_5.size) ++ (a1_4.extract 0 (x7_2 : Int).toNat)).size ≤ 9223372036854775807) = true := decide_eq_true c19
            try have c19b2 : (9223372036854775807 < ((a0_5.extract ((ji13) : Int).toNat a0_5.size) ++ (a1_4.extract 0 (x7_2 : Int).toNat)).size) = False := eq_false (Nat.not_lt.2 c19)
            obtain ⟨y137, hy137⟩ : ∃ y_ : List Int, y_ = (bytesOf ((a0_5.extract ((ji13) : Int).toNat a0_5.size) ++ (a1_4.extract 0 (x7_2 : Int).toNat))) := ⟨_, rfl⟩
            replace H : ((octet_Value.f k2 y137).bind fun t140 => (if t140 ≥ 0 then ((weld_units.f t140).bind fun t141 => (weld_seam.l1 k2 x6_1 (wrap64 (x7_2 + 1)) a0_0 a0_1 a0_2 a0_3 a0_4 a0_5 a1_0 a1_1 a1_2 a1_3 a1_4 a1_5 0 (wrap64 ((wrap64 (x6_1 + x7_2)) - 1)) (wrap64 ((wrap64 (x6_1 + x7_2)) - t141)) 0)) else (weld_seam.l1 k2 x6_1 (wrap64 (x7_2 + 1)) a0_0 a0_1 a0_2 a0_3 a0_4 a0_5 a1_0 a1_1 a1_2 a1_3 a1_4 a1_5 0 x136001_2 x136002_2 0))) = some (r1, r2, r3, r4) := by first | (rw [hy137]; with_reducible exact H) | (have H2_ := (Option.bind_some _ _).symm.trans H; rw [hy137]; with_reducible exact H2_) | (have H2_ := (Option.bind_some _ _).symm.trans H; with_reducible exact H2_) | with_reducible exact H | (rw [hy137]; exact H) | exact H
            have Ny137 := Aside0.mk hy137; clear hy137
            replace H := Option.bind_eq_some_iff.mp H
            obtain ⟨t140, A200, H⟩ := H
            replace H : (if t140 ≥ 0 then ((weld_units.f t140).bind fun t141 => (weld_seam.l1 k2 x6_1 (wrap64 (x7_2 + 1)) a0_0 a0_1 a0_2 a0_3 a0_4 a0_5 a1_0 a1_1 a1_2 a1_3 a1_4 a1_5 0 (wrap64 ((wrap64 (x6_1 + x7_2)) - 1)) (wrap64 ((wrap64 (x6_1 + x7_2)) - t141)) 0)) else (weld_seam.l1 k2 x6_1 (wrap64 (x7_2 + 1)) a0_0 a0_1 a0_2 a0_3 a0_4 a0_5 a1_0 a1_1 a1_2 a1_3 a1_4 a1_5 0 x136001_2 x136002_2 0)) = some (r1, r2, r3, r4) := H
            have A20 := Aside0.mk A200; clear A200
            by_cases c21 : t140 ≥ 0
            ·rw [if_pos c21] at H
             have c21b0 : decide (0 ≤ t140) = true := decide_eq_true c21
             clear c21
             replace H := Option.bind_eq_some_iff.mp H
             obtain ⟨t141, A220, H⟩ := H
             replace H : (weld_seam.l1 k2 x6_1 (wrap64 (x7_2 + 1)) a0_0 a0_1 a0_2 a0_3 a0_4 a0_5 a1_0 a1_1 a1_2 a1_3 a1_4 a1_5 0 (wrap64 ((wrap64 (x6_1 + x7_2)) - 1)) (wrap64 ((wrap64 (x6_1 + x7_2)) - t141)) 0) = some (r1, r2, r3, r4) := H
             have A22 := Aside0.mk A220; clear A220; have H' := Aside0.mk H; clear H; have hnb23 := NB133_132.out; have hnc23 := NB132_133.out; have hnb24 := NB133_134.out; have hnc24 := NB134_133.out; have hnb25 := NB133_135.out; have hnc25 := NB135_133.out; obtain ⟨hcz26_0, hcz26_1, hcz26_2, hcz26_3, hcz26_4, hcz26_5⟩ := c6 BK133.out; obtain ⟨hfz26_0, hfz26_1, hfz26_2, hfz26_3, hfz26_4, hfz26_5⟩ := f6 BK133.out
             try go_wp2
             replace BK132 := Aside0.mk (blk_drew BK132.out); replace BK133 := Aside0.mk (blk_drew BK133.out); replace BK134 := Aside0.mk (blk_drew BK134.out); replace BK135 := Aside0.mk (blk_drew BK135.out); replace HB := Aside0.mk (below_drew1 HB.out)
             refine start_ (n := 16) (S := fun w' => w'.cell? ⟨gb132, 0, none⟩ = some (.int .i64 a0_0) ∧ w'.cell? ⟨gb132, 1, none⟩ = some (.int .i64 a0_1) ∧ w'.cell? ⟨gb132, 2, none⟩ = some (.int .i64 a0_2) ∧ w'.cell? ⟨gb132, 3, none⟩ = some (.int .i64 a0_3) ∧ w'.cell? ⟨gb132, 4, none⟩ = some (.string a0_4) ∧ w'.cell? ⟨gb132, 5, none⟩ = some (.string a0_5) ∧ w'.cell? ⟨gb133, 0, none⟩ = some (.int .i64 a1_0) ∧ w'.cell? ⟨gb133, 1, none⟩ = some (.int .i64 a1_1) ∧ w'.cell? ⟨gb133, 2, none⟩ = some (.int .i64 a1_2) ∧ w'.cell? ⟨gb133, 3, none⟩ = some (.int .i64 a1_3) ∧ w'.cell? ⟨gb133, 4, none⟩ = some (.string a1_4) ∧ w'.cell? ⟨gb133, 5, none⟩ = some (.string a1_5)) (ds := []) #[false, false, false, false, false, false, false, false, false, false, false, false, false, false, false, false] (by kernel_rfl) rfl rfl ⟨(blk_cell BK132.out 0).trans rfl, (blk_cell BK132.out 1).trans rfl, (blk_cell BK132.out 2).trans rfl, (blk_cell BK132.out 3).trans rfl, (blk_cell BK132.out 4).trans rfl, (blk_cell BK132.out 5).trans rfl, (blk_cell BK133.out 0).trans rfl, (blk_cell BK133.out 1).trans rfl, (blk_cell BK133.out 2).trans rfl, (blk_cell BK133.out 3).trans rfl, (blk_cell BK133.out 4).trans rfl, (blk_cell BK133.out 5).trans rfl⟩ (fun hHeld => ?_); refine with_tabW weld_seam.tab8 weld_seam.bits8 (fun HT_ HW_ => ?_)
             generalize wr.drew = w27 at BK132 BK133 BK134 BK135 HB hHeld ⊢
             refine pure_ (i := 0) (N := some 23) (v := ?_) (a' := ?_) #[true, false, false, false, false, false, false, false, false, false, false, false, false, false, false, false] rfl rfl (any_of HT_.out (by kernel_rfl)) (fun _ _ _ h => h) (Or.inl ⟨by rfl, ?_⟩) ?_ ?_
             rotate_left
             ·intro w'
              go_simp
              with_reducible rfl
             rotate_left
             ·simp only [Act.put, List.setIfInBounds_toArray, List.set_cons_zero, List.set_cons_succ, i64_w, i32_w]
              rfl
             refine pure_ (i := 2) (N := some 25) (v := ?_) (a' := ?_) #[true, false, true, false, false, false, false, false, false, false, false, false, false, false, false, false] rfl rfl (any_of HT_.out (by kernel_rfl)) (fun _ _ _ h => h) (Or.inl ⟨by rfl, ?_⟩) ?_ ?_
             rotate_left
             ·intro w'
              go_simp
              with_reducible rfl
             rotate_left
             ·simp only [Act.put, List.setIfInBounds_toArray, List.set_cons_zero, List.set_cons_succ, i64_w, i32_w]
              rfl
             refine pure_ (i := 5) (N := some 28) (v := ?_) (a' := ?_) #[true, false, true, false, false, true, false, false, false, false, false, false, false, false, false, false] rfl rfl (any_of HT_.out (by kernel_rfl)) (fun _ _ _ h => h) (Or.inl ⟨by rfl, ?_⟩) ?_ ?_
             rotate_left
             ·intro w'
              go_simp
              with_reducible rfl
             rotate_left
             ·simp only [Act.put, List.setIfInBounds_toArray, List.set_cons_zero, List.set_cons_succ, i64_w, i32_w]
              rfl
             refine pure_ (i := 8) (N := some 31) (v := ?_) (a' := ?_) #[true, false, true, false, false, true, false, false, true, false, false, false, false, false, false, false] rfl rfl (any_of HT_.out (by kernel_rfl)) (fun _ _ _ h => h) (Or.inl ⟨by rfl, ?_⟩) ?_ ?_
             rotate_left
             ·intro w'
              go_simp
              with_reducible rfl
             rotate_left
             ·simp only [Act.put, List.setIfInBounds_toArray, List.set_cons_zero, List.set_cons_succ, i64_w, i32_w]
              rfl
             refine pure_ (i := 10) (N := some 33) (v := ?_) (a' := ?_) #[true, false, true, false, false, true, false, false, true, false, true, false, false, false, false, false] rfl rfl (any_of HT_.out (by kernel_rfl)) (fun _ _ _ h => h) (Or.inl ⟨by rfl, ?_⟩) ?_ ?_
             rotate_left
             ·intro w'
              go_simp
              with_reducible rfl
             rotate_left
             ·simp only [Act.put, List.setIfInBounds_toArray, List.set_cons_zero, List.set_cons_succ, i64_w, i32_w]
              rfl
             refine take_ (i := 1) (N := some 24) (v := ?_) (a' := ?_) #[true, true, true, false, false, true, false, false, true, false, true, false, false, false, false, false] rfl rfl (take_ofW HT_.out HW_.out (by kernel_rfl)) (fun _ _ _ h => h) (Or.inl ⟨by rfl, ?_⟩) hHeld ?_ ?_
             rotate_left
             ·rintro w' ⟨s0, s1, s2, s3, s4, s5, s6, s7, s8, s9, s10, s11⟩
              go_simp
              with_reducible rfl
             rotate_left
             ·simp only [Act.put, List.setIfInBounds_toArray, List.set_cons_zero, List.set_cons_succ, i64_w, i32_w]
              rfl
             refine take_ (i := 3) (N := some 26) (v := ?_) (a' := ?_) #[true, true, true, true, false, true, false, false, true, false, true, false, false, false, false, false] rfl rfl (take_ofW HT_.out HW_.out (by kernel_rfl)) (fun _ _ _ h => h) (Or.inl ⟨by rfl, ?_⟩) hHeld ?_ ?_
             rotate_left
             ·rintro w' ⟨s0, s1, s2, s3, s4, s5, s6, s7, s8, s9, s10, s11⟩
              go_simp
              with_reducible rfl
             rotate_left
             ·simp only [Act.put, List.setIfInBounds_toArray, List.set_cons_zero, List.set_cons_succ, i64_w, i32_w]
              rfl
             refine pure_ (i := 4) (N := some 27) (v := ?_) (a' := ?_) #[true, true, true, true, true, true, false, false, true, false, true, false, false, false, false, false] rfl rfl (any_of HT_.out (by kernel_rfl)) (fun _ _ _ h => h) (Or.inl ⟨by rfl, ?_⟩) ?_ ?_
             rotate_left
             ·intro w'
              go_simp
              with_reducible rfl
             rotate_left
             ·simp only [Act.put, List.setIfInBounds_toArray, List.set_cons_zero, List.set_cons_succ, i64_w, i32_w]
              rfl
             refine pure_ (i := 6) (N := some 29) (v := ?_) (a' := ?_) #[true, true, true, true, true, true, true, false, true, false, true, false, false, false, false, false] rfl rfl (any_of HT_.out (by kernel_rfl)) (fun _ _ _ h => h) (Or.inl ⟨by rfl, ?_⟩) ?_ ?_
             rotate_left
             ·intro w'
              go_simp
              with_reducible rfl
             rotate_left
             ·simp only [Act.put, List.setIfInBounds_toArray, List.set_cons_zero, List.set_cons_succ, i64_w, i32_w]
              rfl
             refine pure_ (i := 7) (N := some 30) (v := ?_) (a' := ?_) #[true, true, true, true, true, true, true, true, true, false, true, false, false, false, false, false] rfl rfl (any_of HT_.out (by kernel_rfl)) (fun _ _ _ h => h) (Or.inl ⟨by rfl, ?_⟩) ?_ ?_
             rotate_left
             ·intro w'
              go_simp
              with_reducible rfl
             rotate_left
             ·simp only [Act.put, List.setIfInBounds_toArray, List.set_cons_zero, List.set_cons_succ, i64_w, i32_w]
              rfl
             refine take_ (i := 9) (N := some 32) (v := ?_) (a' := ?_) #[true, true, true, true, true, true, true, true, true, true, true, false, false, false, false, false] rfl rfl (take_ofW HT_.out HW_.out (by kernel_rfl)) (fun _ _ _ h => h) (Or.inl ⟨by rfl, ?_⟩) hHeld ?_ ?_
             rotate_left
             ·rintro w' ⟨s0, s1, s2, s3, s4, s5, s6, s7, s8, s9, s10, s11⟩
              go_simp
              with_reducible rfl
             rotate_left
             ·simp only [Act.put, List.setIfInBounds_toArray, List.set_cons_zero, List.set_cons_succ, i64_w, i32_w]
              rfl
             refine pure_ (i := 11) (N := some 34) (v := ?_) (a' := ?_) #[true, true, true, true, true, true, true, true, true, true, true, true, false, false, false, false] rfl rfl (any_of HT_.out (by kernel_rfl)) (fun _ _ _ h => h) (Or.inl ⟨by rfl, ?_⟩) ?_ ?_
             rotate_left
             ·intro w'
              go_simp
              with_reducible rfl
             rotate_left
             ·simp only [Act.put, List.setIfInBounds_toArray, List.set_cons_zero, List.set_cons_succ, i64_w, i32_w]
              rfl
             refine pure_ (i := 12) (N := some 35) (v := ?_) (a' := ?_) #[true, true, true, true, true, true, true, true, true, true, true, true, true, false, false, false] rfl rfl (any_of HT_.out (by kernel_rfl)) (fun _ _ _ h => h) (Or.inl ⟨by rfl, ?_⟩) ?_ ?_
             rotate_left
             ·intro w'
              go_simp
              with_reducible rfl
             rotate_left
             ·simp only [Act.put, List.setIfInBounds_toArray, List.set_cons_zero, List.set_cons_succ, i64_w, i32_w]
              rfl
             refine one_ (i := 13) (N := some 36) #[true, true, true, true, true, true, true, true, true, true, true, true, true, true, false, false] rfl rfl (one_of HT_.out (by kernel_rfl)) (by decide) (fun K hK => ?_)
             refine Kd.V_bytes_step _ 5 ?hg (N := 36) ?hd (s := ((a0_5.extract ((ji13) : Int).toNat a0_5.size) ++ (a1_4.extract 0 (x7_2 : Int).toNat))) (ok := fun k_ => w27.heap.size ≤ k_) rfl ?hx Tryd.underlying9 Tryd.underlying29 Tryd.underlying5 (Nat.le_refl _) (Below.refl _ _) (Nat.le_refl _) (of_decide_eq_true (by first | (with_reducible assumption) | assumption)) ?_; (case hd => rfl); (case hg => rfl); (case hx => first | rfl | (go_simp; done) | (go_simp; rfl))
             intro v138 w28 ho29 hb hg_ hnew_
             clear hg_ hnew_
             (first | rw [← Ny137.out] at ho29 | (simp only [Int.reduceToNat] at ho29; rw [← Ny137.out] at ho29))
             have HO139 := Aside0.mk (Kd.V_lower (Kd.V_mono (ok' := fun k_ => k_ ≠ gb132 ∧ k_ ≠ gb133 ∧ k_ ≠ gb134 ∧ k_ ≠ gb135) ho29 (fun k_ hk_ => ⟨(Kd.freshB (g := gb132) (o := .cells #[.int .i64 a0_0, .int .i64 a0_1, .int .i64 a0_2, .int .i64 a0_3, .string a0_4, .string a0_5] 26 (0, 0)) (pl BK132.out) k_ hk_), (Kd.freshB (g := gb133) (o := .cells #[.int .i64 a1_0, .int .i64 a1_1, .int .i64 a1_2, .int .i64 a1_3, .string a1_4, .string a1_5] 26 (0, 0)) (pl BK133.out) k_ hk_), (Kd.freshB (g := gb134) (o := .cells #[.int .i64 0, .int .i64 0, .int .i64 0, .int .i64 0] 24 (0, 0)) (pl BK134.out) k_ hk_), (Kd.freshB (g := gb135) (o := .cells #[.int .i64 0, .int .i64 x136001_2, .int .i64 x136002_2, .int .i64 0] 24 (0, 0)) (pl BK135.out) k_ hk_)⟩)) (below_size (by repeat (first | (with_reducible first | exact HB.out | apply below_alloc | apply pw_below_drewN | apply below_drew1 | refine below_set ?_ GE132.out | refine below_set ?_ GE133.out | refine below_set ?_ GE134.out | refine below_set ?_ GE135.out) | exact HB.out)))); replace BK132 := Aside0.mk (blk_below (pl BK132.out) hb); replace BK133 := Aside0.mk (blk_below (pl BK133.out) hb); replace BK134 := Aside0.mk (blk_below (pl BK134.out) hb); replace BK135 := Aside0.mk (blk_below (pl BK135.out) hb); replace HB := Aside0.mk (below_step (by repeat (first | (with_reducible first | exact HB.out | apply below_alloc | apply pw_below_drewN | apply below_drew1 | refine below_set ?_ GE132.out | refine below_set ?_ GE133.out | refine below_set ?_ GE134.out | refine below_set ?_ GE135.out) | exact HB.out)) hb); clear hb ho29
             obtain ⟨Ao30, co30, eo30⟩ := Kd.V_slice HO139.out
             (first | subst eo30 | (injection eo30 with f1_ f2_ f3_; have f4_ := f1_.symm; have f5_ := f3_.symm; clear f1_ f2_ f3_; subst f4_; subst f5_))
             refine hK.out _ _ ⟨(blk_cell BK132.out 0).trans rfl, (blk_cell BK132.out 1).trans rfl, (blk_cell BK132.out 2).trans rfl, (blk_cell BK132.out 3).trans rfl, (blk_cell BK132.out 4).trans rfl, (blk_cell BK132.out 5).trans rfl, (blk_cell BK133.out 0).trans rfl, (blk_cell BK133.out 1).trans rfl, (blk_cell BK133.out 2).trans rfl, (blk_cell BK133.out 3).trans rfl, (blk_cell BK133.out 4).trans rfl, (blk_cell BK133.out 5).trans rfl⟩ (fun hHeld => ?_)
             clear hK K
             refine norm_ (a' := ?_) ?_ ?_
             rotate_left
             ·show Act.put _ (some 36) _ = _
              simp only [Act.put, List.setIfInBounds_toArray, List.set_cons_zero, List.set_cons_succ, i64_w, i32_w]
              rfl
             refine one_ (i := 14) (N := some 37) #[true, true, true, true, true, true, true, true, true, true, true, true, true, true, true, false] rfl rfl (one_of HT_.out (by kernel_rfl)) (by decide) (fun K hK => ?_)
             refine goes_ Tryd.func45 (by kernel_rfl) rfl #[.slice Ao30 y137.length co30] (by rfl) rfl rfl (by (try simp only [List.map_toArray, List.map_cons, List.map_nil]); first | done | rfl | (simp only [List.length_drop, List.length_take]; rfl)) ?_
             with_reducible refine (octet_Value.calls k2 _ _ y137 t140 _ ?side1 ?side2 ?side3 A20.out).mono ?_
             (case side1 => first | (with_reducible exact HG.out) | exact Glob.Globs_below HG.out (by repeat (first | (with_reducible first | exact HB.out | apply below_alloc | apply pw_below_drewN | apply below_drew1 | refine below_set ?_ GE132.out | refine below_set ?_ GE133.out | refine below_set ?_ GE134.out | refine below_set ?_ GE135.out) | exact HB.out)))
             (case side2 => repeat (first | exact (Kd.V_reads' HO139.out).2.2 | (with_reducible refine Kd.C_alloc ?_ _) | (with_reducible refine Kd.C_drewN ?_ _) | (with_reducible refine Kd.C_drew ?_)))
             (case side3 => exact (Kd.V_reads' HO139.out).2.1)
             rintro e w31 ⟨rfl, hb⟩
             refine ⟨_, rfl, ?_⟩
             replace HO139 := Aside0.mk (Kd.V_below (by (with_reducible repeat (first | apply Kd.V_alloc | apply Kd.V_drewN | apply Kd.V_drew)); exact HO139.out) hb); replace BK132 := Aside0.mk (blk_below (pl BK132.out) hb); replace BK133 := Aside0.mk (blk_below (pl BK133.out) hb); replace BK134 := Aside0.mk (blk_below (pl BK134.out) hb); replace BK135 := Aside0.mk (blk_below (pl BK135.out) hb); replace HB := Aside0.mk (below_step (by repeat (first | (with_reducible first | exact HB.out | apply below_alloc | apply pw_below_drewN | apply below_drew1 | refine below_set ?_ GE132.out | refine below_set ?_ GE133.out | refine below_set ?_ GE134.out | refine below_set ?_ GE135.out) | exact HB.out)) hb)
             (try clear hb)
             (try clear hb2)
             (try clear hk)
             (try clear hi)
             refine hK.out _ _ ⟨(blk_cell BK132.out 0).trans rfl, (blk_cell BK132.out 1).trans rfl, (blk_cell BK132.out 2).trans rfl, (blk_cell BK132.out 3).trans rfl, (blk_cell BK132.out 4).trans rfl, (blk_cell BK132.out 5).trans rfl, (blk_cell BK133.out 0).trans rfl, (blk_cell BK133.out 1).trans rfl, (blk_cell BK133.out 2).trans rfl, (blk_cell BK133.out 3).trans rfl, (blk_cell BK133.out 4).trans rfl, (blk_cell BK133.out 5).trans rfl⟩ (fun hHeld => ?_)
             clear hK K
             refine norm_ (a' := ?_) ?_ ?_
             rotate_left
             ·show Act.put _ (some 37) _ = _
              simp only [Act.put, List.setIfInBounds_toArray, List.set_cons_zero, List.set_cons_succ, i64_w, i32_w]
              rfl
             refine pure_ (i := 15) (N := some 8) (v := ?_) (a' := ?_) #[true, true, true, true, true, true, true, true, true, true, true, true, true, true, true, true] rfl rfl (any_of HT_.out (by kernel_rfl)) (fun _ _ _ h => h) (Or.inl ⟨by rfl, ?_⟩) ?_ ?_
             rotate_left
             ·intro w'
              go_simp
              with_reducible rfl
             rotate_left
             ·simp only [Act.put, List.setIfInBounds_toArray, List.set_cons_zero, List.set_cons_succ, i64_w, i32_w]
              rfl
             refine done_ (done_of HT_.out (by kernel_rfl)) ?_
             have hnb32 := NB135_132.out; have hnc32 := NB132_135.out; have hnb33 := NB135_134.out; have hnc33 := NB134_135.out; obtain ⟨hcz34_0, hcz34_1, hcz34_2, hcz34_3⟩ := c4 BK135.out; obtain ⟨hfz34_0, hfz34_1, hfz34_2, hfz34_3⟩ := f4 BK135.out
             try go_wp2_with (first | ((with_reducible refine gate_callee (f := 26) rfl ?_); refine goesL_ (some 49) rfl rfl Tryd.func26 (by kernel_rfl) rfl #[.int .i32 t140] rfl (by (try simp only [List.map_toArray, List.map_cons, List.map_nil]); first | done | rfl | (simp only [List.length_drop, List.length_take]; rfl)) ?_; (with_reducible refine (weld_units.calls t140 t141 _ A22.out).mono ?_); rintro e w' ⟨rfl, ⟨nd, rfl⟩⟩; refine ⟨_, rfl, ?_⟩))
             go_roundg k2
             case measure => have := HK1.out; have := HK2.out; omega
             case rel => exact ⟨(wrap64 (x7_2 + 1)), (wrap64 ((wrap64 (x6_1 + x7_2)) - 1)), (wrap64 ((wrap64 (x6_1 + x7_2)) - t141)), (by first | rfl | (simp; done) | (simp [*]; done)), H', ⟨by have := HK1.out; have := HK2.out; omega⟩, ⟨by refine pl ?_; refine blk_far ?_ NB132_135.out _; refine pl ?_; refine blk_far ?_ NB132_135.out _; refine pl ?_; exact BK132.out⟩, ⟨by refine pl ?_; refine blk_far ?_ NB133_135.out _; refine pl ?_; refine blk_far ?_ NB133_135.out _; refine pl ?_; exact BK133.out⟩, ⟨by refine pl ?_; refine blk_far ?_ NB134_135.out _; refine pl ?_; refine blk_far ?_ NB134_135.out _; refine pl ?_; exact BK134.out⟩, ⟨by refine pl ?_; refine blk_put (cs := #[.int .i64 0, .int .i64 (wrap64 ((wrap64 (x6_1 + x7_2)) - 1)), .int .i64 x136002_2, .int .i64 0]) ?_ 2 _ rfl; refine pl ?_; refine blk_put (cs := #[.int .i64 0, .int .i64 x136001_2, .int .i64 x136002_2, .int .i64 0]) ?_ 1 _ rfl; refine pl ?_; exact BK135.out⟩, ⟨by repeat (first | (with_reducible first | exact HB.out | apply below_alloc | apply pw_below_drewN | apply below_drew1 | refine below_set ?_ GE132.out | refine below_set ?_ GE133.out | refine below_set ?_ GE134.out | refine below_set ?_ GE135.out) | exact HB.out)⟩⟩
            ·rw [if_neg c21] at H
             have c21b0 : decide (0 ≤ t140) = false := decide_eq_false c21
             clear c21; have H' := Aside0.mk H; clear H; have hnb35 := NB133_132.out; have hnc35 := NB132_133.out; have hnb36 := NB133_134.out; have hnc36 := NB134_133.out; have hnb37 := NB133_135.out; have hnc37 := NB135_133.out; obtain ⟨hcz38_0, hcz38_1, hcz38_2, hcz38_3, hcz38_4, hcz38_5⟩ := c6 BK133.out; obtain ⟨hfz38_0, hfz38_1, hfz38_2, hfz38_3, hfz38_4, hfz38_5⟩ := f6 BK133.out
             try go_wp2
             replace BK132 := Aside0.mk (blk_drew BK132.out); replace BK133 := Aside0.mk (blk_drew BK133.out); replace BK134 := Aside0.mk (blk_drew BK134.out); replace BK135 := Aside0.mk (blk_drew BK135.out); replace HB := Aside0.mk (below_drew1 HB.out)
             refine start_ (n := 16) (S := fun w' => w'.cell? ⟨gb132, 0, none⟩ = some (.int .i64 a0_0) ∧ w'.cell? ⟨gb132, 1, none⟩ = some (.int .i64 a0_1) ∧ w'.cell? ⟨gb132, 2, none⟩ = some (.int .i64 a0_2) ∧ w'.cell? ⟨gb132, 3, none⟩ = some (.int .i64 a0_3) ∧ w'.cell? ⟨gb132, 4, none⟩ = some (.string a0_4) ∧ w'.cell? ⟨gb132, 5, none⟩ = some (.string a0_5) ∧ w'.cell? ⟨gb133, 0, none⟩ = some (.int .i64 a1_0) ∧ w'.cell? ⟨gb133, 1, none⟩ = some (.int .i64 a1_1) ∧ w'.cell? ⟨gb133, 2, none⟩ = some (.int .i64 a1_2) ∧ w'.cell? ⟨gb133, 3, none⟩ = some (.int .i64 a1_3) ∧ w'.cell? ⟨gb133, 4, none⟩ = some (.string a1_4) ∧ w'.cell? ⟨gb133, 5, none⟩ = some (.string a1_5)) (ds := []) #[false, false, false, false, false, false, false, false, false, false, false, false, false, false, false, false] (by kernel_rfl) rfl rfl ⟨(blk_cell BK132.out 0).trans rfl, (blk_cell BK132.out 1).trans rfl, (blk_cell BK132.out 2).trans rfl, (blk_cell BK132.out 3).trans rfl, (blk_cell BK132.out 4).trans rfl, (blk_cell BK132.out 5).trans rfl, (blk_cell BK133.out 0).trans rfl, (blk_cell BK133.out 1).trans rfl, (blk_cell BK133.out 2).trans rfl, (blk_cell BK133.out 3).trans rfl, (blk_cell BK133.out 4).trans rfl, (blk_cell BK133.out 5).trans rfl⟩ (fun hHeld => ?_); refine with_tabW weld_seam.tab8 weld_seam.bits8 (fun HT_ HW_ => ?_)
             generalize wr.drew = w39 at BK132 BK133 BK134 BK135 HB hHeld ⊢
             refine pure_ (i := 0) (N := some 23) (v := ?_) (a' := ?_) #[true, false, false, false, false, false, false, false, false, false, false, false, false, false, false, false] rfl rfl (any_of HT_.out (by kernel_rfl)) (fun _ _ _ h => h) (Or.inl ⟨by rfl, ?_⟩) ?_ ?_
             rotate_left
             ·intro w'
              go_simp
              with_reducible rfl
             rotate_left
             ·simp only [Act.put, List.setIfInBounds_toArray, List.set_cons_zero, List.set_cons_succ, i64_w, i32_w]
              rfl
             refine pure_ (i := 2) (N := some 25) (v := ?_) (a' := ?_) #[true, false, true, false, false, false, false, false, false, false, false, false, false, false, false, false] rfl rfl (any_of HT_.out (by kernel_rfl)) (fun _ _ _ h => h) (Or.inl ⟨by rfl, ?_⟩) ?_ ?_
             rotate_left
             ·intro w'
              go_simp
              with_reducible rfl
             rotate_left
             ·simp only [Act.put, List.setIfInBounds_toArray, List.set_cons_zero, List.set_cons_succ, i64_w, i32_w]
              rfl
             refine pure_ (i := 5) (N := some 28) (v := ?_) (a' := ?_) #[true, false, true, false, false, true, false, false, false, false, false, false, false, false, false, false] rfl rfl (any_of HT_.out (by kernel_rfl)) (fun _ _ _ h => h) (Or.inl ⟨by rfl, ?_⟩) ?_ ?_
             rotate_left
             ·intro w'
              go_simp
              with_reducible rfl
             rotate_left
             ·simp only [Act.put, List.setIfInBounds_toArray, List.set_cons_zero, List.set_cons_succ, i64_w, i32_w]
              rfl
             refine pure_ (i := 8) (N := some 31) (v := ?_) (a' := ?_) #[true, false, true, false, false, true, false, false, true, false, false, false, false, false, false, false] rfl rfl (any_of HT_.out (by kernel_rfl)) (fun _ _ _ h => h) (Or.inl ⟨by rfl, ?_⟩) ?_ ?_
             rotate_left
             ·intro w'
              go_simp
              with_reducible rfl
             rotate_left
             ·simp only [Act.put, List.setIfInBounds_toArray, List.set_cons_zero, List.set_cons_succ, i64_w, i32_w]
              rfl
             refine pure_ (i := 10) (N := some 33) (v := ?_) (a' := ?_) #[true, false, true, false, false, true, false, false, true, false, true, false, false, false, false, false] rfl rfl (any_of HT_.out (by kernel_rfl)) (fun _ _ _ h => h) (Or.inl ⟨by rfl, ?_⟩) ?_ ?_
             rotate_left
             ·intro w'
              go_simp
              with_reducible rfl
             rotate_left
             ·simp only [Act.put, List.setIfInBounds_toArray, List.set_cons_zero, List.set_cons_succ, i64_w, i32_w]
              rfl
             refine take_ (i := 1) (N := some 24) (v := ?_) (a' := ?_) #[true, true, true, false, false, true, false, false, true, false, true, false, false, false, false, false] rfl rfl (take_ofW HT_.out HW_.out (by kernel_rfl)) (fun _ _ _ h => h) (Or.inl ⟨by rfl, ?_⟩) hHeld ?_ ?_
             rotate_left
             ·rintro w' ⟨s0, s1, s2, s3, s4, s5, s6, s7, s8, s9, s10, s11⟩
              go_simp
              with_reducible rfl
             rotate_left
             ·simp only [Act.put, List.setIfInBounds_toArray, List.set_cons_zero, List.set_cons_succ, i64_w, i32_w]
              rfl
             refine take_ (i := 3) (N := some 26) (v := ?_) (a' := ?_) #[true, true, true, true, false, true, false, false, true, false, true, false, false, false, false, false] rfl rfl (take_ofW HT_.out HW_.out (by kernel_rfl)) (fun _ _ _ h => h) (Or.inl ⟨by rfl, ?_⟩) hHeld ?_ ?_
             rotate_left
             ·rintro w' ⟨s0, s1, s2, s3, s4, s5, s6, s7, s8, s9, s10, s11⟩
              go_simp
              with_reducible rfl
             rotate_left
             ·simp only [Act.put, List.setIfInBounds_toArray, List.set_cons_zero, List.set_cons_succ, i64_w, i32_w]
              rfl
             refine pure_ (i := 4) (N := some 27) (v := ?_) (a' := ?_) #[true, true, true, true, true, true, false, false, true, false, true, false, false, false, false, false] rfl rfl (any_of HT_.out (by kernel_rfl)) (fun _ _ _ h => h) (Or.inl ⟨by rfl, ?_⟩) ?_ ?_
             rotate_left
             ·intro w'
              go_simp
              with_reducible rfl
             rotate_left
             ·simp only [Act.put, List.setIfInBounds_toArray, List.set_cons_zero, List.set_cons_succ, i64_w, i32_w]
              rfl
             refine pure_ (i := 6) (N := some 29) (v := ?_) (a' := ?_) #[true, true, true, true, true, true, true, false, true, false, true, false, false, false, false, false] rfl rfl (any_of HT_.out (by kernel_rfl)) (fun _ _ _ h => h) (Or.inl ⟨by rfl, ?_⟩) ?_ ?_
             rotate_left
             ·intro w'
              go_simp
              with_reducible rfl
             rotate_left
             ·simp only [Act.put, List.setIfInBounds_toArray, List.set_cons_zero, List.set_cons_succ, i64_w, i32_w]
              rfl
             refine pure_ (i := 7) (N := some 30) (v := ?_) (a' := ?_) #[true, true, true, true, true, true, true, true, true, false, true, false, false, false, false, false] rfl rfl (any_of HT_.out (by kernel_rfl)) (fun _ _ _ h => h) (Or.inl ⟨by rfl, ?_⟩) ?_ ?_
             rotate_left
             ·intro w'
              go_simp
              with_reducible rfl
             rotate_left
             ·simp only [Act.put, List.setIfInBounds_toArray, List.set_cons_zero, List.set_cons_succ, i64_w, i32_w]
              rfl
             refine take_ (i := 9) (N := some 32) (v := ?_) (a' := ?_) #[true, true, true, true, true, true, true, true, true, true, true, false, false, false, false, false] rfl rfl (take_ofW HT_.out HW_.out (by kernel_rfl)) (fun _ _ _ h => h) (Or.inl ⟨by rfl, ?_⟩) hHeld ?_ ?_
             rotate_left
             ·rintro w' ⟨s0, s1, s2, s3, s4, s5, s6, s7, s8, s9, s10, s11⟩
              go_simp
              with_reducible rfl
             rotate_left
             ·simp only [Act.put, List.setIfInBounds_toArray, List.set_cons_zero, List.set_cons_succ, i64_w, i32_w]
              rfl
             refine pure_ (i := 11) (N := some 34) (v := ?_) (a' := ?_) #[true, true, true, true, true, true, true, true, true, true, true, true, false, false, false, false] rfl rfl (any_of HT_.out (by kernel_rfl)) (fun _ _ _ h => h) (Or.inl ⟨by rfl, ?_⟩) ?_ ?_
             rotate_left
             ·intro w'
              go_simp
              with_reducible rfl
             rotate_left
             ·simp only [Act.put, List.setIfInBounds_toArray, List.set_cons_zero, List.set_cons_succ, i64_w, i32_w]
              rfl
             refine pure_ (i := 12) (N := some 35) (v := ?_) (a' := ?_) #[true, true, true, true, true, true, true, true, true, true, true, true, true, false, false, false] rfl rfl (any_of HT_.out (by kernel_rfl)) (fun _ _ _ h => h) (Or.inl ⟨by rfl, ?_⟩) ?_ ?_
             rotate_left
             ·intro w'
              go_simp
              with_reducible rfl
             rotate_left
             ·simp only [Act.put, List.setIfInBounds_toArray, List.set_cons_zero, List.set_cons_succ, i64_w, i32_w]
              rfl
             refine one_ (i := 13) (N := some 36) #[true, true, true, true, true, true, true, true, true, true, true, true, true, true, false, false] rfl rfl (one_of HT_.out (by kernel_rfl)) (by decide) (fun K hK => ?_)
             refine Kd.V_bytes_step _ 5 ?hg (N := 36) ?hd (s := ((a0_5.extract ((ji13) : Int).toNat a0_5.size) ++ (a1_4.extract 0 (x7_2 : Int).toNat))) (ok := fun k_ => w39.heap.size ≤ k_) rfl ?hx Tryd.underlying9 Tryd.underlying29 Tryd.underlying5 (Nat.le_refl _) (Below.refl _ _) (Nat.le_refl _) (of_decide_eq_true (by first | (with_reducible assumption) | assumption)) ?_; (case hd => rfl); (case hg => rfl); (case hx => first | rfl | (go_simp; done) | (go_simp; rfl))
             intro v138 w40 ho41 hb hg_ hnew_
             clear hg_ hnew_
             (first | rw [← Ny137.out] at ho41 | (simp only [Int.reduceToNat] at ho41; rw [← Ny137.out] at ho41))
             have HO139 := Aside0.mk (Kd.V_lower (Kd.V_mono (ok' := fun k_ => k_ ≠ gb132 ∧ k_ ≠ gb133 ∧ k_ ≠ gb134 ∧ k_ ≠ gb135) ho41 (fun k_ hk_ => ⟨(Kd.freshB (g := gb132) (o := .cells #[.int .i64 a0_0, .int .i64 a0_1, .int .i64 a0_2, .int .i64 a0_3, .string a0_4, .string a0_5] 26 (0, 0)) (pl BK132.out) k_ hk_), (Kd.freshB (g := gb133) (o := .cells #[.int .i64 a1_0, .int .i64 a1_1, .int .i64 a1_2, .int .i64 a1_3, .string a1_4, .string a1_5] 26 (0, 0)) (pl BK133.out) k_ hk_), (Kd.freshB (g := gb134) (o := .cells #[.int .i64 0, .int .i64 0, .int .i64 0, .int .i64 0] 24 (0, 0)) (pl BK134.out) k_ hk_), (Kd.freshB (g := gb135) (o := .cells #[.int .i64 0, .int .i64 x136001_2, .int .i64 x136002_2, .int .i64 0] 24 (0, 0)) (pl BK135.out) k_ hk_)⟩)) (below_size (by repeat (first | (with_reducible first | exact HB.out | apply below_alloc | apply pw_below_drewN | apply below_drew1 | refine below_set ?_ GE132.out | refine below_set ?_ GE133.out | refine below_set ?_ GE134.out | refine below_set ?_ GE135.out) | exact HB.out)))); replace BK132 := Aside0.mk (blk_below (pl BK132.out) hb); replace BK133 := Aside0.mk (blk_below (pl BK133.out) hb); replace BK134 := Aside0.mk (blk_below (pl BK134.out) hb); replace BK135 := Aside0.mk (blk_below (pl BK135.out) hb); replace HB := Aside0.mk (below_step (by repeat (first | (with_reducible first | exact HB.out | apply below_alloc | apply pw_below_drewN | apply below_drew1 | refine below_set ?_ GE132.out | refine below_set ?_ GE133.out | refine below_set ?_ GE134.out | refine below_set ?_ GE135.out) | exact HB.out)) hb); clear hb ho41
             obtain ⟨Ao42, co42, eo42⟩ := Kd.V_slice HO139.out
             (first | subst eo42 | (injection eo42 with f1_ f2_ f3_; have f4_ := f1_.symm; have f5_ := f3_.symm; clear f1_ f2_ f3_; subst f4_; subst f5_))
             refine hK.out _ _ ⟨(blk_cell BK132.out 0).trans rfl, (blk_cell BK132.out 1).trans rfl, (blk_cell BK132.out 2).trans rfl, (blk_cell BK132.out 3).trans rfl, (blk_cell BK132.out 4).trans rfl, (blk_cell BK132.out 5).trans rfl, (blk_cell BK133.out 0).trans rfl, (blk_cell BK133.out 1).trans rfl, (blk_cell BK133.out 2).trans rfl, (blk_cell BK133.out 3).trans rfl, (blk_cell BK133.out 4).trans rfl, (blk_cell BK133.out 5).trans rfl⟩ (fun hHeld => ?_)
             clear hK K
             refine norm_ (a' := ?_) ?_ ?_
             rotate_left
             ·show Act.put _ (some 36) _ = _
              simp only [Act.put, List.setIfInBounds_toArray, List.set_cons_zero, List.set_cons_succ, i64_w, i32_w]
              rfl
             refine one_ (i := 14) (N := some 37) #[true, true, true, true, true, true, true, true, true, true, true, true, true, true, true, false] rfl rfl (one_of HT_.out (by kernel_rfl)) (by decide) (fun K hK => ?_)
             refine goes_ Tryd.func45 (by kernel_rfl) rfl #[.slice Ao42 y137.length co42] (by rfl) rfl rfl (by (try simp only [List.map_toArray, List.map_cons, List.map_nil]); first | done | rfl | (simp only [List.length_drop, List.length_take]; rfl)) ?_
             with_reducible refine (octet_Value.calls k2 _ _ y137 t140 _ ?side1 ?side2 ?side3 A20.out).mono ?_
             (case side1 => first | (with_reducible exact HG.out) | exact Glob.Globs_below HG.out (by repeat (first | (with_reducible first | exact HB.out | apply below_alloc | apply pw_below_drewN | apply below_drew1 | refine below_set ?_ GE132.out | refine below_set ?_ GE133.out | refine below_set ?_ GE134.out | refine below_set ?_ GE135.out) | exact HB.out)))
             (case side2 => repeat (first | exact (Kd.V_reads' HO139.out).2.2 | (with_reducible refine Kd.C_alloc ?_ _) | (with_reducible refine Kd.C_drewN ?_ _) | (with_reducible refine Kd.C_drew ?_)))
             (case side3 => exact (Kd.V_reads' HO139.out).2.1)
             rintro e w43 ⟨rfl, hb⟩
             refine ⟨_, rfl, ?_⟩
             replace HO139 := Aside0.mk (Kd.V_below (by (with_reducible repeat (first | apply Kd.V_alloc | apply Kd.V_drewN | apply Kd.V_drew)); exact HO139.out) hb); replace BK132 := Aside0.mk (blk_below (pl BK132.out) hb); replace BK133 := Aside0.mk (blk_below (pl BK133.out) hb); replace BK134 := Aside0.mk (blk_below (pl BK134.out) hb); replace BK135 := Aside0.mk (blk_below (pl BK135.out) hb); replace HB := Aside0.mk (below_step (by repeat (first | (with_reducible first | exact HB.out | apply below_alloc | apply pw_below_drewN | apply below_drew1 | refine below_set ?_ GE132.out | refine below_set ?_ GE133.out | refine below_set ?_ GE134.out | refine below_set ?_ GE135.out) | exact HB.out)) hb)
             (try clear hb)
             (try clear hb2)
             (try clear hk)
             (try clear hi)
             refine hK.out _ _ ⟨(blk_cell BK132.out 0).trans rfl, (blk_cell BK132.out 1).trans rfl, (blk_cell BK132.out 2).trans rfl, (blk_cell BK132.out 3).trans rfl, (blk_cell BK132.out 4).trans rfl, (blk_cell BK132.out 5).trans rfl, (blk_cell BK133.out 0).trans rfl, (blk_cell BK133.out 1).trans rfl, (blk_cell BK133.out 2).trans rfl, (blk_cell BK133.out 3).trans rfl, (blk_cell BK133.out 4).trans rfl, (blk_cell BK133.out 5).trans rfl⟩ (fun hHeld => ?_)
             clear hK K
             refine norm_ (a' := ?_) ?_ ?_
             rotate_left
             ·show Act.put _ (some 37) _ = _
              simp only [Act.put, List.setIfInBounds_toArray, List.set_cons_zero, List.set_cons_succ, i64_w, i32_w]
              rfl
             refine pure_ (i := 15) (N := some 8) (v := ?_) (a' := ?_) #[true, true, true, true, true, true, true, true, true, true, true, true, true, true, true, true] rfl rfl (any_of HT_.out (by kernel_rfl)) (fun _ _ _ h => h) (Or.inl ⟨by rfl, ?_⟩) ?_ ?_
             rotate_left
             ·intro w'
              go_simp
              with_reducible rfl
             rotate_left
             ·simp only [Act.put, List.setIfInBounds_toArray, List.set_cons_zero, List.set_cons_succ, i64_w, i32_w]
              rfl
             refine done_ (done_of HT_.out (by kernel_rfl)) ?_
             try go_wp2
             go_roundg k2
             case measure => have := HK1.out; have := HK2.out; omega
             case rel => exact ⟨(wrap64 (x7_2 + 1)), (x136001_2), (x136002_2), (by first | rfl | (simp; done) | (simp [*]; done)), H', ⟨by have := HK1.out; have := HK2.out; omega⟩, ⟨pl BK132.out⟩, ⟨pl BK133.out⟩, ⟨pl BK134.out⟩, ⟨pl BK135.out⟩, ⟨by repeat (first | (with_reducible first | exact HB.out | apply below_alloc | apply pw_below_drewN | apply below_drew1 | refine below_set ?_ GE132.out | refine below_set ?_ GE133.out | refine below_set ?_ GE134.out | refine below_set ?_ GE135.out) | exact HB.out)⟩⟩
           ·rw [if_neg c19] at H
            exact absurd H (by simp)
          ·rw [if_neg c18] at H
           exact absurd H (by simp)
         ·rw [if_neg c16] at H
          exact absurd H (by simp)
        ·rw [if_neg c15] at H
         exact absurd H (by simp)
       ·rw [if_neg c14] at H
        exact absurd H (by simp)
      ·rw [if_neg c12] at H
       have c12b0 : decide (x7_2 ≤ (a1_4.size : Int)) = false := decide_eq_false c12
       clear c12; have H' := Aside0.mk H; clear H; have hnb44 := NB133_132.out; have hnc44 := NB132_133.out; have hnb45 := NB133_134.out; have hnc45 := NB134_133.out; have hnb46 := NB133_135.out; have hnc46 := NB135_133.out; obtain ⟨hcz47_0, hcz47_1, hcz47_2, hcz47_3, hcz47_4, hcz47_5⟩ := c6 BK133.out; obtain ⟨hfz47_0, hfz47_1, hfz47_2, hfz47_3, hfz47_4, hfz47_5⟩ := f6 BK133.out
       go_wp2
       go_roundg k2
       case measure => have := HK1.out; have := HK2.out; omega
       case rel => exact ⟨(wrap64 (x6_1 + 1)), (x136001_2), (x136002_2), (by first | rfl | (simp; done) | (simp [*]; done)), H', ⟨by have := HK1.out; have := HK2.out; omega⟩, ⟨pl BK132.out⟩, ⟨pl BK133.out⟩, ⟨pl BK134.out⟩, ⟨pl BK135.out⟩, ⟨by repeat (first | (with_reducible first | exact HB.out | apply below_alloc | apply pw_below_drewN | apply below_drew1 | refine below_set ?_ GE132.out | refine below_set ?_ GE133.out | refine below_set ?_ GE134.out | refine below_set ?_ GE135.out) | exact HB.out)⟩⟩
   ·rw [if_neg c7] at H
    have c7b0 : decide (x6_1 ≤ (a0_5.size : Int)) = false := decide_eq_false c7
    clear c7
    replace H := Option.bind_eq_some_iff.mp H
    obtain ⟨t136, A480, H⟩ := H
    replace H : (if t136 = true then (if (a1_4.size : Int) > 0 then (if 0 < (a1_4.size : Int) then (if (bt a1_4 0) = 10 then (some (0, x136001_1, x136002_1, 1)) else (some (0, x136001_1, x136002_1, 0))) else (none)) else (some (0, x136001_1, x136002_1, 0))) else (some (0, x136001_1, x136002_1, 0))) = some (r1, r2, r3, r4) := H
    have A48 := Aside0.mk A480; clear A480
    by_cases c49 : t136 = true
    ·subst c49
     have H1 : (if (a1_4.size : Int) > 0 then (if 0 < (a1_4.size : Int) then (if (bt a1_4 0) = 10 then (some (0, x136001_1, x136002_1, 1)) else (some (0, x136001_1, x136002_1, 0))) else (none)) else (some (0, x136001_1, x136002_1, 0))) = some (r1, r2, r3, r4) := by rw [if_pos rfl] at H; exact H
     clear H; have H := H1; clear H1
     by_cases c50 : (a1_4.size : Int) > 0
     ·rw [if_pos c50] at H
      have c50b0 : decide (0 < (a1_4.size : Int)) = true := decide_eq_true c50
      have c50b1 : decide (0 < a1_4.size) = true := decide_eq_true (by omega)
      clear c50
      by_cases c51 : 0 < (a1_4.size : Int)
      ·rw [if_pos c51] at H
       have c51b0 : decide (0 < (a1_4.size : Int)) = true := decide_eq_true c51
       have c51b1 : decide (0 < a1_4.size) = true := decide_eq_true (by omega)
       clear c51
       by_cases c53 : (bt a1_4 0) = 10
       ·rw [if_pos c53] at H
        have c53b0 : ((bt a1_4 0) == 10) = true := beq_iff_eq.mpr c53
        have c53b1 : ((bt a1_4 0) != 10) = false := bne_eq_false_iff_eq.mpr c53
        clear c53
        simp only [Option.some.injEq, Prod.mk.injEq] at H
        obtain ⟨rfl, rfl, rfl, rfl⟩ := H
        have hnb54 := NB132_133.out; have hnc54 := NB133_132.out; have hnb55 := NB132_134.out; have hnc55 := NB134_132.out; have hnb56 := NB132_135.out; have hnc56 := NB135_132.out; obtain ⟨hcz57_0, hcz57_1, hcz57_2, hcz57_3, hcz57_4, hcz57_5⟩ := c6 BK132.out; obtain ⟨hfz57_0, hfz57_1, hfz57_2, hfz57_3, hfz57_4, hfz57_5⟩ := f6 BK132.out
        go_wp2_with (first | ((with_reducible refine gate_callee (f := 46) rfl ?_); refine goesL_ (some 54) rfl rfl Tryd.func46 (by kernel_rfl) rfl #[.string a0_5, .int .u8 13] rfl (by (try simp only [List.map_toArray, List.map_cons, List.map_nil]); first | done | rfl | (simp only [List.length_drop, List.length_take]; rfl)) ?_; (with_reducible refine (weld_tailIs.calls a0_5 13 true _ A48.out).mono ?_); rintro e w' ⟨rfl, ⟨nd, rfl⟩⟩; refine ⟨_, rfl, ?_⟩; (try (rw [drewN_self wr]; generalize hq_ : World.drewN wr _ = wr; have n0_ : Aside0 (wr.heap[gb132]? = some (.cells #[.int .i64 a0_0, .int .i64 a0_1, .int .i64 a0_2, .int .i64 a0_3, .string a0_4, .string a0_5] 26 (0, 0))) := ⟨by rw [← hq_]; exact (pl BK132.out)⟩; have n1_ : Aside0 (wr.heap[gb133]? = some (.cells #[.int .i64 a1_0, .int .i64 a1_1, .int .i64 a1_2, .int .i64 a1_3, .string a1_4, .string a1_5] 26 (0, 0))) := ⟨by rw [← hq_]; exact (pl BK133.out)⟩; have n2_ : Aside0 (wr.heap[gb134]? = some (.cells #[.int .i64 0, .int .i64 0, .int .i64 0, .int .i64 0] 24 (0, 0))) := ⟨by rw [← hq_]; exact (pl BK134.out)⟩; have n3_ : Aside0 (wr.heap[gb135]? = some (.cells #[.int .i64 0, .int .i64 x136001_1, .int .i64 x136002_1, .int .i64 0] 24 (0, 0))) := ⟨by rw [← hq_]; exact (pl BK135.out)⟩; have n4_ : Aside0 (Below w.heap.size w wr) := ⟨by rw [← hq_]; exact (by repeat (first | (with_reducible first | exact HB.out | apply below_alloc | apply pw_below_drewN | apply below_drew1 | refine below_set ?_ GE132.out | refine below_set ?_ GE133.out | refine below_set ?_ GE134.out | refine below_set ?_ GE135.out) | exact HB.out))⟩; clear BK132 BK133 BK134 BK135 HB hq_; have BK132 := n0_; have BK133 := n1_; have BK134 := n2_; have BK135 := n3_; have HB := n4_; clear n0_ n1_ n2_ n3_ n4_)); have hnb58 := NB133_134.out; have hnc58 := NB134_133.out; have hnb59 := NB133_135.out; have hnc59 := NB135_133.out; obtain ⟨hcz60_0, hcz60_1, hcz60_2, hcz60_3, hcz60_4, hcz60_5⟩ := c6 BK133.out; obtain ⟨hfz60_0, hfz60_1, hfz60_2, hfz60_3, hfz60_4, hfz60_5⟩ := f6 BK133.out; have p52 : 0 ≤ (0 : Int) := (by omega); have q52 : 0 < a1_4.size := (by have : (0 : Int) < (a1_4.size : Int) := of_decide_eq_true (by first | (with_reducible assumption) | assumption); omega); have hx52 : ∀ h : 0 < a1_4.size, ((a1_4[0]'h).toNat : Int) = bt a1_4 0 := bt_at a1_4 0; clear p52; have qi52 : (0 < (a1_4.size : Int)) = True := eq_true (of_decide_eq_true (by first | (with_reducible assumption) | assumption)); replace q52 := eq_true q52; have hnb61 := NB135_134.out; have hnc61 := NB134_135.out; obtain ⟨hcz62_0, hcz62_1, hcz62_2, hcz62_3⟩ := c4 BK135.out; obtain ⟨hfz62_0, hfz62_1, hfz62_2, hfz62_3⟩ := f4 BK135.out; obtain ⟨hcz63_0, hcz63_1, hcz63_2, hcz63_3⟩ := c4 BK134.out; obtain ⟨hfz63_0, hfz63_1, hfz63_2, hfz63_3⟩ := f4 BK134.out))
        refine bodyPost_ret (results_cell_row rfl _ _ gb134 24 #[.int .i64 0, .int .i64 x136001_1, .int .i64 x136002_1, .int .i64 1] (0, 0) _ rfl (by refine pl ?_; refine blk_put (cs := #[.int .i64 0, .int .i64 x136001_1, .int .i64 x136002_1, .int .i64 0]) ?_ 3 _ rfl; refine pl ?_; refine blk_put (cs := #[.int .i64 0, .int .i64 x136001_1, .int .i64 0, .int .i64 0]) ?_ 2 _ rfl; refine pl ?_; refine blk_put (cs := #[.int .i64 0, .int .i64 0, .int .i64 0, .int .i64 0]) ?_ 1 _ rfl; refine pl ?_; refine blk_put (cs := #[.int .i64 0, .int .i64 0, .int .i64 0, .int .i64 0]) ?_ 0 _ rfl; refine pl ?_; refine blk_far ?_ NB134_135.out _; refine pl ?_; exact BK134.out) Tryd.underlying24 rfl (by kernel_rfl)) rfl ?_
        exact ⟨by first | rfl | (simp [errW_none, errW_some] <;> rfl) | (simp [*, errW_none, errW_some] <;> rfl), by repeat (first | (with_reducible first | exact HB.out | apply below_alloc | apply pw_below_drewN | apply below_drew1 | refine below_set ?_ GE132.out | refine below_set ?_ GE133.out | refine below_set ?_ GE134.out | refine below_set ?_ GE135.out) | exact HB.out)⟩
       ·rw [if_neg c53] at H
        have c53b0 : ((bt a1_4 0) == 10) = false := beq_eq_false_iff_ne.mpr c53
        have c53b1 : ((bt a1_4 0) != 10) = true := bne_iff_ne.mpr c53
        simp only [Option.some.injEq, Prod.mk.injEq] at H
        obtain ⟨rfl, rfl, rfl, rfl⟩ := H
        have hnb64 := NB132_133.out; have hnc64 := NB133_132.out; have hnb65 := NB132_134.out; have hnc65 := NB134_132.out; have hnb66 := NB132_135.out; have hnc66 := NB135_132.out; obtain ⟨hcz67_0, hcz67_1, hcz67_2, hcz67_3, hcz67_4, hcz67_5⟩ := c6 BK132.out; obtain ⟨hfz67_0, hfz67_1, hfz67_2, hfz67_3, hfz67_4, hfz67_5⟩ := f6 BK132.out
        go_wp2_with (first | ((with_reducible refine gate_callee (f := 46) rfl ?_); refine goesL_ (some 54) rfl rfl Tryd.func46 (by kernel_rfl) rfl #[.string a0_5, .int .u8 13] rfl (by (try simp only [List.map_toArray, List.map_cons, List.map_nil]); first | done | rfl | (simp only [List.length_drop, List.length_take]; rfl)) ?_; (with_reducible refine (weld_tailIs.calls a0_5 13 true _ A48.out).mono ?_); rintro e w' ⟨rfl, ⟨nd, rfl⟩⟩; refine ⟨_, rfl, ?_⟩; (try (rw [drewN_self wr]; generalize hq_ : World.drewN wr _ = wr; have n0_ : Aside0 (wr.heap[gb132]? = some (.cells #[.int .i64 a0_0, .int .i64 a0_1, .int .i64 a0_2, .int .i64 a0_3, .string a0_4, .string a0_5] 26 (0, 0))) := ⟨by rw [← hq_]; exact (pl BK132.out)⟩; have n1_ : Aside0 (wr.heap[gb133]? = some (.cells #[.int .i64 a1_0, .int .i64 a1_1, .int .i64 a1_2, .int .i64 a1_3, .string a1_4, .string a1_5] 26 (0, 0))) := ⟨by rw [← hq_]; exact (pl BK133.out)⟩; have n2_ : Aside0 (wr.heap[gb134]? = some (.cells #[.int .i64 0, .int .i64 0, .int .i64 0, .int .i64 0] 24 (0, 0))) := ⟨by rw [← hq_]; exact (pl BK134.out)⟩; have n3_ : Aside0 (wr.heap[gb135]? = some (.cells #[.int .i64 0, .int .i64 x136001_1, .int .i64 x136002_1, .int .i64 0] 24 (0, 0))) := ⟨by rw [← hq_]; exact (pl BK135.out)⟩; have n4_ : Aside0 (Below w.heap.size w wr) := ⟨by rw [← hq_]; exact (by repeat (first | (with_reducible first | exact HB.out | apply below_alloc | apply pw_below_drewN | apply below_drew1 | refine below_set ?_ GE132.out | refine below_set ?_ GE133.out | refine below_set ?_ GE134.out | refine below_set ?_ GE135.out) | exact HB.out))⟩; clear BK132 BK133 BK134 BK135 HB hq_; have BK132 := n0_; have BK133 := n1_; have BK134 := n2_; have BK135 := n3_; have HB := n4_; clear n0_ n1_ n2_ n3_ n4_)); have hnb68 := NB133_134.out; have hnc68 := NB134_133.out; have hnb69 := NB133_135.out; have hnc69 := NB135_133.out; obtain ⟨hcz70_0, hcz70_1, hcz70_2, hcz70_3, hcz70_4, hcz70_5⟩ := c6 BK133.out; obtain ⟨hfz70_0, hfz70_1, hfz70_2, hfz70_3, hfz70_4, hfz70_5⟩ := f6 BK133.out; have p52 : 0 ≤ (0 : Int) := (by omega); have q52 : 0 < a1_4.size := (by have : (0 : Int) < (a1_4.size : Int) := of_decide_eq_true (by first | (with_reducible assumption) | assumption); omega); have hx52 : ∀ h : 0 < a1_4.size, ((a1_4[0]'h).toNat : Int) = bt a1_4 0 := bt_at a1_4 0; clear p52; have qi52 : (0 < (a1_4.size : Int)) = True := eq_true (of_decide_eq_true (by first | (with_reducible assumption) | assumption)); replace q52 := eq_true q52; have hnb71 := NB135_134.out; have hnc71 := NB134_135.out; obtain ⟨hcz72_0, hcz72_1, hcz72_2, hcz72_3⟩ := c4 BK135.out; obtain ⟨hfz72_0, hfz72_1, hfz72_2, hfz72_3⟩ := f4 BK135.out; obtain ⟨hcz73_0, hcz73_1, hcz73_2, hcz73_3⟩ := c4 BK134.out; obtain ⟨hfz73_0, hfz73_1, hfz73_2, hfz73_3⟩ := f4 BK134.out))
        refine bodyPost_ret (results_cell_row rfl _ _ gb134 24 #[.int .i64 0, .int .i64 x136001_1, .int .i64 x136002_1, .int .i64 0] (0, 0) _ rfl (by refine pl ?_; refine blk_put (cs := #[.int .i64 0, .int .i64 x136001_1, .int .i64 x136002_1, .int .i64 0]) ?_ 3 _ rfl; refine pl ?_; refine blk_put (cs := #[.int .i64 0, .int .i64 x136001_1, .int .i64 0, .int .i64 0]) ?_ 2 _ rfl; refine pl ?_; refine blk_put (cs := #[.int .i64 0, .int .i64 0, .int .i64 0, .int .i64 0]) ?_ 1 _ rfl; refine pl ?_; refine blk_put (cs := #[.int .i64 0, .int .i64 0, .int .i64 0, .int .i64 0]) ?_ 0 _ rfl; refine pl ?_; exact BK134.out) Tryd.underlying24 rfl (by kernel_rfl)) rfl ?_
        exact ⟨by first | rfl | (simp [errW_none, errW_some] <;> rfl) | (simp [*, errW_none, errW_some] <;> rfl), by repeat (first | (with_reducible first | exact HB.out | apply below_alloc | apply pw_below_drewN | apply below_drew1 | refine below_set ?_ GE132.out | refine below_set ?_ GE133.out | refine below_set ?_ GE134.out | refine below_set ?_ GE135.out) | exact HB.out)⟩
      ·rw [if_neg c51] at H
       exact absurd H (by simp)
     ·rw [if_neg c50] at H
      have c50b0 : decide (0 < (a1_4.size : Int)) = false := decide_eq_false c50
      have c50b1 : decide (0 < a1_4.size) = false := decide_eq_false (by omega)
      clear c50
      simp only [Option.some.injEq, Prod.mk.injEq] at H
      obtain ⟨rfl, rfl, rfl, rfl⟩ := H
      have hnb74 := NB132_133.out; have hnc74 := NB133_132.out; have hnb75 := NB132_134.out; have hnc75 := NB134_132.out; have hnb76 := NB132_135.out; have hnc76 := NB135_132.out; obtain ⟨hcz77_0, hcz77_1, hcz77_2, hcz77_3, hcz77_4, hcz77_5⟩ := c6 BK132.out; obtain ⟨hfz77_0, hfz77_1, hfz77_2, hfz77_3, hfz77_4, hfz77_5⟩ := f6 BK132.out
      go_wp2_with (first | ((with_reducible refine gate_callee (f := 46) rfl ?_); refine goesL_ (some 54) rfl rfl Tryd.func46 (by kernel_rfl) rfl #[.string a0_5, .int .u8 13] rfl (by (try simp only [List.map_toArray, List.map_cons, List.map_nil]); first | done | rfl | (simp only [List.length_drop, List.length_take]; rfl)) ?_; (with_reducible refine (weld_tailIs.calls a0_5 13 true _ A48.out).mono ?_); rintro e w' ⟨rfl, ⟨nd, rfl⟩⟩; refine ⟨_, rfl, ?_⟩; (try (rw [drewN_self wr]; generalize hq_ : World.drewN wr _ = wr; have n0_ : Aside0 (wr.heap[gb132]? = some (.cells #[.int .i64 a0_0, .int .i64 a0_1, .int .i64 a0_2, .int .i64 a0_3, .string a0_4, .string a0_5] 26 (0, 0))) := ⟨by rw [← hq_]; exact (pl BK132.out)⟩; have n1_ : Aside0 (wr.heap[gb133]? = some (.cells #[.int .i64 a1_0, .int .i64 a1_1, .int .i64 a1_2, .int .i64 a1_3, .string a1_4, .string a1_5] 26 (0, 0))) := ⟨by rw [← hq_]; exact (pl BK133.out)⟩; have n2_ : Aside0 (wr.heap[gb134]? = some (.cells #[.int .i64 0, .int .i64 0, .int .i64 0, .int .i64 0] 24 (0, 0))) := ⟨by rw [← hq_]; exact (pl BK134.out)⟩; have n3_ : Aside0 (wr.heap[gb135]? = some (.cells #[.int .i64 0, .int .i64 x136001_1, .int .i64 x136002_1, .int .i64 0] 24 (0, 0))) := ⟨by rw [← hq_]; exact (pl BK135.out)⟩; have n4_ : Aside0 (Below w.heap.size w wr) := ⟨by rw [← hq_]; exact (by repeat (first | (with_reducible first | exact HB.out | apply below_alloc | apply pw_below_drewN | apply below_drew1 | refine below_set ?_ GE132.out | refine below_set ?_ GE133.out | refine below_set ?_ GE134.out | refine below_set ?_ GE135.out) | exact HB.out))⟩; clear BK132 BK133 BK134 BK135 HB hq_; have BK132 := n0_; have BK133 := n1_; have BK134 := n2_; have BK135 := n3_; have HB := n4_; clear n0_ n1_ n2_ n3_ n4_)); have hnb78 := NB133_134.out; have hnc78 := NB134_133.out; have hnb79 := NB133_135.out; have hnc79 := NB135_133.out; obtain ⟨hcz80_0, hcz80_1, hcz80_2, hcz80_3, hcz80_4, hcz80_5⟩ := c6 BK133.out; obtain ⟨hfz80_0, hfz80_1, hfz80_2, hfz80_3, hfz80_4, hfz80_5⟩ := f6 BK133.out; have hnb81 := NB135_134.out; have hnc81 := NB134_135.out; obtain ⟨hcz82_0, hcz82_1, hcz82_2, hcz82_3⟩ := c4 BK135.out; obtain ⟨hfz82_0, hfz82_1, hfz82_2, hfz82_3⟩ := f4 BK135.out; obtain ⟨hcz83_0, hcz83_1, hcz83_2, hcz83_3⟩ := c4 BK134.out; obtain ⟨hfz83_0, hfz83_1, hfz83_2, hfz83_3⟩ := f4 BK134.out))
      refine bodyPost_ret (results_cell_row rfl _ _ gb134 24 #[.int .i64 0, .int .i64 x136001_1, .int .i64 x136002_1, .int .i64 0] (0, 0) _ rfl (by refine pl ?_; refine blk_put (cs := #[.int .i64 0, .int .i64 x136001_1, .int .i64 x136002_1, .int .i64 0]) ?_ 3 _ rfl; refine pl ?_; refine blk_put (cs := #[.int .i64 0, .int .i64 x136001_1, .int .i64 0, .int .i64 0]) ?_ 2 _ rfl; refine pl ?_; refine blk_put (cs := #[.int .i64 0, .int .i64 0, .int .i64 0, .int .i64 0]) ?_ 1 _ rfl; refine pl ?_; refine blk_put (cs := #[.int .i64 0, .int .i64 0, .int .i64 0, .int .i64 0]) ?_ 0 _ rfl; refine pl ?_; exact BK134.out) Tryd.underlying24 rfl (by kernel_rfl)) rfl ?_
      exact ⟨by first | rfl | (simp [errW_none, errW_some] <;> rfl) | (simp [*, errW_none, errW_some] <;> rfl), by repeat (first | (with_reducible first | exact HB.out | apply below_alloc | apply pw_below_drewN | apply below_drew1 | refine below_set ?_ GE132.out | refine below_set ?_ GE133.out | refine below_set ?_ GE134.out | refine below_set ?_ GE135.out) | exact HB.out)⟩
    ·replace c49 := Bool.eq_false_iff.mpr c49
     subst c49
     have H1 : (some (0, x136001_1, x136002_1, 0)) = some (r1, r2, r3, r4) := by rw [if_neg (show ¬ (false = true) by decide)] at H; exact H
     clear H; have H := H1; clear H1
     simp only [Option.some.injEq, Prod.mk.injEq] at H
     obtain ⟨rfl, rfl, rfl, rfl⟩ := H
     have hnb84 := NB132_133.out; have hnc84 := NB133_132.out; have hnb85 := NB132_134.out; have hnc85 := NB134_132.out; have hnb86 := NB132_135.out; have hnc86 := NB135_132.out; obtain ⟨hcz87_0, hcz87_1, hcz87_2, hcz87_3, hcz87_4, hcz87_5⟩ := c6 BK132.out; obtain ⟨hfz87_0, hfz87_1, hfz87_2, hfz87_3, hfz87_4, hfz87_5⟩ := f6 BK132.out
     go_wp2_with (first | ((with_reducible refine gate_callee (f := 46) rfl ?_); refine goesL_ (some 54) rfl rfl Tryd.func46 (by kernel_rfl) rfl #[.string a0_5, .int .u8 13] rfl (by (try simp only [List.map_toArray, List.map_cons, List.map_nil]); first | done | rfl | (simp only [List.length_drop, List.length_take]; rfl)) ?_; (with_reducible refine (weld_tailIs.calls a0_5 13 false _ A48.out).mono ?_); rintro e w' ⟨rfl, ⟨nd, rfl⟩⟩; refine ⟨_, rfl, ?_⟩; (try (rw [drewN_self wr]; generalize hq_ : World.drewN wr _ = wr; have n0_ : Aside0 (wr.heap[gb132]? = some (.cells #[.int .i64 a0_0, .int .i64 a0_1, .int .i64 a0_2, .int .i64 a0_3, .string a0_4, .string a0_5] 26 (0, 0))) := ⟨by rw [← hq_]; exact (pl BK132.out)⟩; have n1_ : Aside0 (wr.heap[gb133]? = some (.cells #[.int .i64 a1_0, .int .i64 a1_1, .int .i64 a1_2, .int .i64 a1_3, .string a1_4, .string a1_5] 26 (0, 0))) := ⟨by rw [← hq_]; exact (pl BK133.out)⟩; have n2_ : Aside0 (wr.heap[gb134]? = some (.cells #[.int .i64 0, .int .i64 0, .int .i64 0, .int .i64 0] 24 (0, 0))) := ⟨by rw [← hq_]; exact (pl BK134.out)⟩; have n3_ : Aside0 (wr.heap[gb135]? = some (.cells #[.int .i64 0, .int .i64 x136001_1, .int .i64 x136002_1, .int .i64 0] 24 (0, 0))) := ⟨by rw [← hq_]; exact (pl BK135.out)⟩; have n4_ : Aside0 (Below w.heap.size w wr) := ⟨by rw [← hq_]; exact (by repeat (first | (with_reducible first | exact HB.out | apply below_alloc | apply pw_below_drewN | apply below_drew1 | refine below_set ?_ GE132.out | refine below_set ?_ GE133.out | refine below_set ?_ GE134.out | refine below_set ?_ GE135.out) | exact HB.out))⟩; clear BK132 BK133 BK134 BK135 HB hq_; have BK132 := n0_; have BK133 := n1_; have BK134 := n2_; have BK135 := n3_; have HB := n4_; clear n0_ n1_ n2_ n3_ n4_)); have hnb88 := NB135_133.out; have hnc88 := NB133_135.out; have hnb89 := NB135_134.out; have hnc89 := NB134_135.out; obtain ⟨hcz90_0, hcz90_1, hcz90_2, hcz90_3⟩ := c4 BK135.out; obtain ⟨hfz90_0, hfz90_1, hfz90_2, hfz90_3⟩ := f4 BK135.out; have hnb91 := NB134_133.out; have hnc91 := NB133_134.out; obtain ⟨hcz92_0, hcz92_1, hcz92_2, hcz92_3⟩ := c4 BK134.out; obtain ⟨hfz92_0, hfz92_1, hfz92_2, hfz92_3⟩ := f4 BK134.out))
     refine bodyPost_ret (results_cell_row rfl _ _ gb134 24 #[.int .i64 0, .int .i64 x136001_1, .int .i64 x136002_1, .int .i64 0] (0, 0) _ rfl (by refine pl ?_; refine blk_put (cs := #[.int .i64 0, .int .i64 x136001_1, .int .i64 x136002_1, .int .i64 0]) ?_ 3 _ rfl; refine pl ?_; refine blk_put (cs := #[.int .i64 0, .int .i64 x136001_1, .int .i64 0, .int .i64 0]) ?_ 2 _ rfl; refine pl ?_; refine blk_put (cs := #[.int .i64 0, .int .i64 0, .int .i64 0, .int .i64 0]) ?_ 1 _ rfl; refine pl ?_; refine blk_put (cs := #[.int .i64 0, .int .i64 0, .int .i64 0, .int .i64 0]) ?_ 0 _ rfl; refine pl ?_; exact BK134.out) Tryd.underlying24 rfl (by kernel_rfl)) rfl ?_
     exact ⟨by first | rfl | (simp [errW_none, errW_some] <;> rfl) | (simp [*, errW_none, errW_some] <;> rfl), by repeat (first | (with_reducible first | exact HB.out | apply below_alloc | apply pw_below_drewN | apply below_drew1 | refine below_set ?_ GE132.out | refine below_set ?_ GE133.out | refine below_set ?_ GE134.out | refine below_set ?_ GE135.out) | exact HB.out)⟩
end Go.Proofs.YtaojbcplmdjfnaaDoor.Pr

namespace Go.Proofs.YtaojbcplmdjfnaaDoor.Pr
open Go.RowKit Go.Proofs.YtaojbcplmdjfnaaDoorW.PrintWords Go.Proofs.YtaojbcplmdjfnaaDoorW.PrintLast Go.Proofs.YtaojbcplmdjfnaaDoorW.PrintMore
attribute [local go_sem] max2_int min2_int max_two min_two max_three min_three max_four min_four   -- for this text's walks alone
set_option linter.unusedVariables false
set_option linter.unusedSimpArgs false
def weld_sum.f (a0_0 : Int) (a0_1 : Int) (a0_2 : Int) (a0_3 : Int) (a1_0 : Int) (a1_1 : Int) (a1_2 : Int) (a1_3 : Int) (a2 : Int) : Option (Int × Int × Int × Int) := some (wrap64 (a0_0 + (wrap64 (a2 * a1_0))), wrap64 (a0_1 + (wrap64 (a2 * a1_1))), wrap64 (a0_2 + (wrap64 (a2 * a1_2))), wrap64 (a0_3 + (wrap64 (a2 * a1_3))))
set_option maxHeartbeats 8000000 in
set_option maxRecDepth 100000 in
theorem weld_sum.calls (a0_0 : Int) (a0_1 : Int) (a0_2 : Int) (a0_3 : Int) (a1_0 : Int) (a1_1 : Int) (a1_2 : Int) (a1_3 : Int) (a2 : Int) (r1 : Int) (r2 : Int) (r3 : Int) (r4 : Int) (w : World) (h : weld_sum.f a0_0 a0_1 a0_2 a0_3 a1_0 a1_1 a1_2 a1_3 a2 = some (r1, r2, r3, r4)) :
  Calls Tryd.prog 39 #[.agg #[.int .i64 a0_0, .int .i64 a0_1, .int .i64 a0_2, .int .i64 a0_3], .agg #[.int .i64 a1_0, .int .i64 a1_1, .int .i64 a1_2, .int .i64 a1_3], .int .i64 a2] w fun e w' => e = .returned (.agg #[.int .i64 r1, .int .i64 r2, .int .i64 r3, .int .i64 r4]) ∧ Below w.heap.size w w' := by
 have hu24 := Tryd.underlying24
 have HB := Aside0.mk (Below.refl w.heap.size w)
 have H : (some (wrap64 (a0_0 + (wrap64 (a2 * a1_0))), wrap64 (a0_1 + (wrap64 (a2 * a1_1))), wrap64 (a0_2 + (wrap64 (a2 * a1_2))), wrap64 (a0_3 + (wrap64 (a2 * a1_3))))) = some (r1, r2, r3, r4) := h
 clear h
 simp only [Option.some.injEq, Prod.mk.injEq] at H
 obtain ⟨rfl, rfl, rfl, rfl⟩ := H
 go_enter Tryd.func39, Tryd.ntmps39
 go_wp2_with (first | ((with_reducible refine gate_dst (N := 3) rfl ?_); refine box_event ?hg (N := 3) ?hd (cs := #[.int .i64 a0_0, .int .i64 a0_1, .int .i64 a0_2, .int .i64 a0_3]) (t := 24) ?hr ?_; (case hd => rfl); (case hg => rfl); (case hr => first | (go_simp; done) | (go_simp; rfl)); intro gb142 hg w4 hbox hb; have BK142 := Aside0.mk (hbox); have GW142 := Aside0.mk ((by rw [hg]; exact (below_size (bl HB.out)) : w.heap.size ≤ gb142)); have GE142 := GW142; replace HB := Aside0.mk (below_step (bl HB.out) hb); clear hb hbox hg) | ((with_reducible refine gate_dst (N := 4) rfl ?_); refine box_event ?hg (N := 4) ?hd (cs := #[.int .i64 a1_0, .int .i64 a1_1, .int .i64 a1_2, .int .i64 a1_3]) (t := 24) ?hr ?_; (case hd => rfl); (case hg => rfl); (case hr => first | (go_simp; done) | (go_simp; rfl)); intro gb143 hg w5 hbox hb; have BK143 := Aside0.mk (hbox); have GW143 := Aside0.mk ((by rw [hg]; exact (below_size (by repeat (first | (with_reducible first | exact HB.out | apply below_alloc | apply pw_below_drewN | apply below_drew1 | refine below_set ?_ GE142.out) | exact HB.out))) : w.heap.size ≤ gb143)); have GE143 := GW143; replace HB := Aside0.mk (below_step (by repeat (first | (with_reducible first | exact HB.out | apply below_alloc | apply pw_below_drewN | apply below_drew1 | refine below_set ?_ GE142.out) | exact HB.out)) hb); obtain ⟨NB142_143, NB143_142⟩ := nbp hg (pl BK142.out); replace BK142 := Aside0.mk (blk_below (pl BK142.out) hb); clear hb hbox hg) | ((with_reducible refine gate_dst (N := 6) rfl ?_); refine box_event ?hg (N := 6) ?hd (cs := #[.int .i64 0, .int .i64 0, .int .i64 0, .int .i64 0]) (t := 24) ?hr ?_; (case hd => rfl); (case hg => rfl); (case hr => first | (go_simp; done) | (go_simp; rfl)); intro gb144 hg w6 hbox hb; have BK144 := Aside0.mk (hbox); have GW144 := Aside0.mk ((by rw [hg]; exact (below_size (by repeat (first | (with_reducible first | exact HB.out | apply below_alloc | apply pw_below_drewN | apply below_drew1 | refine below_set ?_ GE142.out | refine below_set ?_ GE143.out) | exact HB.out))) : w.heap.size ≤ gb144)); have GE144 := GW144; replace HB := Aside0.mk (below_step (by repeat (first | (with_reducible first | exact HB.out | apply below_alloc | apply pw_below_drewN | apply below_drew1 | refine below_set ?_ GE142.out | refine below_set ?_ GE143.out) | exact HB.out)) hb); obtain ⟨NB142_144, NB144_142⟩ := nbp hg (pl BK142.out); replace BK142 := Aside0.mk (blk_below (pl BK142.out) hb); obtain ⟨NB143_144, NB144_143⟩ := nbp hg (pl BK143.out); replace BK143 := Aside0.mk (blk_below (pl BK143.out) hb); clear hb hbox hg; have hnb7 := NB142_143.out; have hnc7 := NB143_142.out; have hnb8 := NB142_144.out; have hnc8 := NB144_142.out; obtain ⟨hcz9_0, hcz9_1, hcz9_2, hcz9_3⟩ := c4 BK142.out; obtain ⟨hfz9_0, hfz9_1, hfz9_2, hfz9_3⟩ := f4 BK142.out; have hnb10 := NB143_144.out; have hnc10 := NB144_143.out; obtain ⟨hcz11_0, hcz11_1, hcz11_2, hcz11_3⟩ := c4 BK143.out; obtain ⟨hfz11_0, hfz11_1, hfz11_2, hfz11_3⟩ := f4 BK143.out; obtain ⟨hcz12_0, hcz12_1, hcz12_2, hcz12_3⟩ := c4 BK144.out; obtain ⟨hfz12_0, hfz12_1, hfz12_2, hfz12_3⟩ := f4 BK144.out))
 refine bodyPost_ret (results_cell_row rfl _ _ gb144 24 #[.int .i64 (wrap64 (a0_0 + (wrap64 (a2 * a1_0)))), .int .i64 (wrap64 (a0_1 + (wrap64 (a2 * a1_1)))), .int .i64 (wrap64 (a0_2 + (wrap64 (a2 * a1_2)))), .int .i64 (wrap64 (a0_3 + (wrap64 (a2 * a1_3))))] (0, 0) _ rfl (by refine pl ?_; refine blk_put (cs := #[.int .i64 (wrap64 (a0_0 + (wrap64 (a2 * a1_0)))), .int .i64 (wrap64 (a0_1 + (wrap64 (a2 * a1_1)))), .int .i64 (wrap64 (a0_2 + (wrap64 (a2 * a1_2)))), .int .i64 0]) ?_ 3 _ rfl; refine pl ?_; refine blk_put (cs := #[.int .i64 (wrap64 (a0_0 + (wrap64 (a2 * a1_0)))), .int .i64 (wrap64 (a0_1 + (wrap64 (a2 * a1_1)))), .int .i64 0, .int .i64 0]) ?_ 2 _ rfl; refine pl ?_; refine blk_put (cs := #[.int .i64 (wrap64 (a0_0 + (wrap64 (a2 * a1_0)))), .int .i64 0, .int .i64 0, .int .i64 0]) ?_ 1 _ rfl; refine pl ?_; refine blk_put (cs := #[.int .i64 0, .int .i64 0, .int .i64 0, .int .i64 0]) ?_ 0 _ rfl; refine pl ?_; exact BK144.out) Tryd.underlying24 rfl (by kernel_rfl)) rfl ?_
 exact ⟨by first | rfl | (simp [errW_none, errW_some] <;> rfl) | (simp [*, errW_none, errW_some] <;> rfl), by repeat (first | (with_reducible first | exact HB.out | apply below_alloc | apply pw_below_drewN | apply below_drew1 | refine below_set ?_ GE142.out | refine below_set ?_ GE143.out | refine below_set ?_ GE144.out) | exact HB.out)⟩
def weld_head.f (a0 : ByteArray) : Option (ByteArray) := if 0 ≤ (mn 3 (a0.size : Int)) then (if (mn 3 (a0.size : Int)) ≤ (a0.size : Int) then (some (a0.extract 0 ((mn 3 (a0.size : Int)) : Int).toNat)) else (none)) else (none)
set_option maxHeartbeats 8000000 in
set_option maxRecDepth 100000 in
theorem weld_head.calls (a0 : ByteArray) (r : ByteArray) (w : World) (h : weld_head.f a0 = some r) :
  Calls Tryd.prog 40 #[.string a0] w fun e w' => e = .returned (.string r) ∧ Below w.heap.size w w' := by
 have HB := Aside0.mk (Below.refl w.heap.size w)
 have H : (if 0 ≤ (mn 3 (a0.size : Int)) then (if (mn 3 (a0.size : Int)) ≤ (a0.size : Int) then (some (a0.extract 0 ((mn 3 (a0.size : Int)) : Int).toNat)) else (none)) else (none)) = some r := h
 clear h
 obtain ⟨ji2, hji2⟩ : ∃ j_ : Int, (mn 3 (a0.size : Int)) = j_ := ⟨_, rfl⟩
 replace H : (if 0 ≤ (ji2) then (if (ji2) ≤ (a0.size : Int) then (some (a0.extract 0 ((ji2) : Int).toNat)) else (none)) else (none)) = some r := by first | (rw [hji2] at H; exact H) | (simp only [hji2] at H ⊢; exact H)
 (try (have hji2h : ji2 ≤ 3 := by (rw [← hji2]; unfold mn; (repeat' split) <;> omega)))
 (try (have hji2g : ji2 ≤ 64 := by omega))
 (try (have hji2l : 0 ≤ ji2 := by (rw [← hji2]; unfold mn; (repeat' split) <;> omega)))
 (try (have hji2m : 0 ≤ ji2 := by omega))
 have hji2_ : (if (a0.size : Int) < 3 then (a0.size : Int) else 3) = ji2 := hji2
 by_cases c3 : 0 ≤ (ji2)
 ·rw [if_pos c3] at H
  have c3b0 := eq_true c3
  have c3b1 : decide (0 ≤ (ji2)) = true := decide_eq_true c3
  clear c3
  by_cases c4 : (ji2) ≤ (a0.size : Int)
  ·rw [if_pos c4] at H
   have c4b0 := eq_true c4
   have c4b1 : decide ((ji2) ≤ (a0.size : Int)) = true := decide_eq_true c4
   clear c4
   obtain rfl := Option.some.inj H
   go_enter Tryd.func40, Tryd.ntmps40
   go_wp2
   go_ret
   exact ⟨by first | rfl | (simp [errW_none, errW_some] <;> rfl) | (simp only [← hji2]; first | rfl | (simp [errW_none, errW_some] <;> rfl)) | (simp [*, errW_none, errW_some] <;> rfl), bl HB.out⟩
  ·rw [if_neg c4] at H
   exact absurd H (by simp)
 ·rw [if_neg c3] at H
  exact absurd H (by simp)
def weld_tail.f (a0 : ByteArray) : Option (ByteArray) := if 0 ≤ (mx 0 (wrap64 ((a0.size : Int) - 3))) then (if (mx 0 (wrap64 ((a0.size : Int) - 3))) ≤ (a0.size : Int) then (some (a0.extract ((mx 0 (wrap64 ((a0.size : Int) - 3))) : Int).toNat a0.size)) else (none)) else (none)
set_option maxHeartbeats 8000000 in
set_option maxRecDepth 100000 in
theorem weld_tail.calls (a0 : ByteArray) (r : ByteArray) (w : World) (h : weld_tail.f a0 = some r) :
  Calls Tryd.prog 41 #[.string a0] w fun e w' => e = .returned (.string r) ∧ Below w.heap.size w w' := by
 have HB := Aside0.mk (Below.refl w.heap.size w)
 have H : (if 0 ≤ (mx 0 (wrap64 ((a0.size : Int) - 3))) then (if (mx 0 (wrap64 ((a0.size : Int) - 3))) ≤ (a0.size : Int) then (some (a0.extract ((mx 0 (wrap64 ((a0.size : Int) - 3))) : Int).toNat a0.size)) else (none)) else (none)) = some r := h
 clear h
 obtain ⟨ji2, hji2⟩ : ∃ j_ : Int, (mx 0 (wrap64 ((a0.size : Int) - 3))) = j_ := ⟨_, rfl⟩
 replace H : (if 0 ≤ (ji2) then (if (ji2) ≤ (a0.size : Int) then (some (a0.extract ((ji2) : Int).toNat a0.size)) else (none)) else (none)) = some r := by first | (rw [hji2] at H; exact H) | (simp only [hji2] at H ⊢; exact H)
 (try (have hji2l : 0 ≤ ji2 := by (rw [← hji2]; unfold mx; (repeat' split) <;> omega)))
 (try (have hji2m : 0 ≤ ji2 := by omega))
 have hji2_ : (if 0 < (wrap64 ((a0.size : Int) - 3)) then (wrap64 ((a0.size : Int) - 3)) else 0) = ji2 := hji2
 by_cases c3 : 0 ≤ (ji2)
 ·rw [if_pos c3] at H
  have c3b0 := eq_true c3
  have c3b1 : decide (0 ≤ (ji2)) = true := decide_eq_true c3
  clear c3
  by_cases c4 : (ji2) ≤ (a0.size : Int)
  ·rw [if_pos c4] at H
   have c4b0 := eq_true c4
   have c4b1 : decide ((ji2) ≤ (a0.size : Int)) = true := decide_eq_true c4
   clear c4
   obtain rfl := Option.some.inj H
   go_enter Tryd.func41, Tryd.ntmps41
   go_wp2
   go_ret
   exact ⟨by first | rfl | (simp [errW_none, errW_some] <;> rfl) | (simp only [← hji2]; first | rfl | (simp [errW_none, errW_some] <;> rfl)) | (simp [*, errW_none, errW_some] <;> rfl), bl HB.out⟩
  ·rw [if_neg c4] at H
   exact absurd H (by simp)
 ·rw [if_neg c3] at H
  exact absurd H (by simp)
end Go.Proofs.YtaojbcplmdjfnaaDoor.Pr
