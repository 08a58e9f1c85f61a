/- '[]byte(s)' of a string, as an event of the print's walk: the new row is told by its value (Kd.V). Conditions: none. -/
import Derived.Test.YtiolhoaoepgmcaaDoorGlob
import Derived.Test.YtiolhoaoepgmcaaDoorWWords
import Derived.Test.YtiolhoaoepgmcaaDoorWLast
import Derived.Test.YtiolhoaoepgmcaaDoorWShare
import Derived.Test.YtiolhoaoepgmcaaDoorWMore
import Derived.Lib.ConvBytes
import Derived.Lib.SlBytesConst
namespace Go.Proofs.YtiolhoaoepgmcaaDoorW.PrintWords
open Go.RowKit
theorem below_bytes {w0 w : World} (e : TypeId) (s : ByteArray) (base : Nat) (HB : Below base w0 w) (hb : base ≤ w.heap.size) : Below base w0 (Lib.bytesWorld w e s) := by
  refine ⟨HB.os, HB.tape, HB.output, ?_, fun k hk => ?_⟩
  · rw [Lib.bytesWorld_size]; exact Nat.le_trans HB.size (Nat.le_succ _)
  · rw [Lib.bytesWorld_at_old _ _ _ _ (Nat.lt_of_lt_of_le hk hb)]; exact HB.block k hk

theorem C_bytes (w : World) (e : TypeId) (s : ByteArray) (hm : s.size ≤ 9223372036854775807) : Kd.C (Kd.int .u8) (Lib.bytesWorld w e s) (some ⟨w.heap.size, 0, none⟩) (bytesOf s).length (bytesOf s) := by
  have h := bytes_reads w e s hm
  rw [← bytesOf_length s] at h
  exact Kd.C_of_reads (d := (0 : Int)) (h1 := fun _ => rfl) h

theorem bytesCells_len (w : World) (e : TypeId) (s : ByteArray) : s.size ≤ grownCap w s.size 0 e := grownCap_ge _ _ _ _

theorem F_bytes (w : World) (e : TypeId) (s : ByteArray) (ok : Nat → Prop) (hok : ok w.heap.size) (hm : s.size ≤ 9223372036854775807) :
    Kd.F (Kd.int .u8) (Lib.bytesWorld w e s) ok (some ⟨w.heap.size, 0, none⟩) (bytesOf s).length (bytesOf s) := by
  intro W' hW
  have hb : W'.heap[w.heap.size]? = (Lib.bytesWorld w e s).heap[w.heap.size]? := hW _ hok (by rw [Lib.bytesWorld_size]; exact Nat.lt_succ_self _)
  obtain ⟨h1, h2, h3⟩ := bytes_reads w e s hm
  refine Kd.C_of_reads (d := (0 : Int)) (h1 := fun _ => rfl) ⟨rfl, by rw [bytesOf_length]; exact hm, fun hp => ?_⟩
  obtain ⟨ad, had, hc⟩ := h3 (by rw [← h1]; exact hp)
  obtain rfl : (⟨w.heap.size, 0, none⟩ : Addr) = ad := by injection had
  refine ⟨_, rfl, fun j hj => ?_⟩
  rw [World.cell?_of_block (w := Lib.bytesWorld w e s) (w' := W') (a := (⟨w.heap.size, 0, none⟩ : Addr).add j) (by rw [add_plain]; exact hb)]
  exact hc j (by rw [← h1]; exact hj)
namespace Kd
section
variable {P : Program} {ops : Array Oper} {rest : List Oper} {o : Oper} {a : Act} {Q : Exit → Act → World → Prop} {Kc : Act → World → Prop}
theorem grown_bytes (W : World) (e : TypeId) (s : ByteArray) : W.grownBy (Lib.bytesWorld W e s) none :=
  ⟨rfl, rfl, rfl, by rw [Lib.bytesWorld_size]; exact Nat.le_succ _, fun k hk _ => Lib.bytesWorld_at_old _ _ _ _ hk⟩
theorem V_bytes {w0 W : World} (base e : Nat) (hgd : o.guard = none) {N : Tmp} (_hd : o.dst = some N) {src dst : TypeId} {x : Operand} {s : ByteArray} {ok : Nat → Prop}
    (ho : o.op = .convert src dst x) (hx : a.eval x = .string s) (hs : P.underlying src = some .string) (hd : P.underlying dst = some (.slice e)) (he : P.underlying e = some (.int .u8))
    (hfresh : ok W.heap.size) (HB : Below base w0 W) (hbase : base ≤ W.heap.size) (hm : s.size ≤ 9223372036854775807)
    (h : ∀ v1 w1, Kd.V (Kd.int .u8) e w1 base ok v1 (bytesOf s) → Below base w0 w1 → W.grownBy w1 none → (∃ b, v1.ownBlock = some b ∧ W.heap.size ≤ b) → wpList P ops Q rest (a.put o.dst v1) w1) : wpList P ops Q (o :: rest) a W := by
  refine event_run (w1 := Lib.bytesWorld W e s) (v := .slice (some ⟨W.heap.size, 0, none⟩) s.size (grownCap W s.size 0 e)) hgd ?_ (h _ _ ?_ (below_bytes e s base HB hbase) (grown_bytes W e s) ⟨W.heap.size, by simp [Value.ownBlock], Nat.le_refl _⟩)
  · have := Lib.run_convert_string_bytes W src dst e s hs hd he
    simp [execOp, ho, hx, this]
  · rw [← bytesOf_length s]
    exact V_mk (by rw [bytesOf_length]; exact bytesCells_len W e s) (F_bytes W e s ok hfresh hm)
theorem V_bytes_step {w0 W : World} (base e : Nat) (hw : Region.wanted o (yielded ops a.tmps) = true) {N : Tmp} (_hd : o.dst = some N) {src dst : TypeId} {x : Operand} {s : ByteArray} {ok : Nat → Prop}
    (ho : o.op = .convert src dst x) (hx : a.eval x = .string s) (hs : P.underlying src = some .string) (hd : P.underlying dst = some (.slice e)) (he : P.underlying e = some (.int .u8))
    (hfresh : ok W.heap.size) (HB : Below base w0 W) (hbase : base ≤ W.heap.size) (hm : s.size ≤ 9223372036854775807)
    (h : ∀ v1 w1, Kd.V (Kd.int .u8) e w1 base ok v1 (bytesOf s) → Below base w0 w1 → W.grownBy w1 none → (∃ b, v1.ownBlock = some b ∧ W.heap.size ≤ b) → Kc (a.put o.dst v1) w1) : if Region.wanted o (yielded ops a.tmps) = true then Oper.wp P o a W Kc Q else Kc (a.put o.dst undef) W := by
  refine event_step (w1 := Lib.bytesWorld W e s) (v := .slice (some ⟨W.heap.size, 0, none⟩) s.size (grownCap W s.size 0 e)) hw ?_ (h _ _ ?_ (below_bytes e s base HB hbase) (grown_bytes W e s) ⟨W.heap.size, by simp [Value.ownBlock], Nat.le_refl _⟩)
  · have := Lib.run_convert_string_bytes W src dst e s hs hd he
    simp [execOp, ho, hx, this]
  · rw [← bytesOf_length s]
    exact V_mk (by rw [bytesOf_length]; exact bytesCells_len W e s) (F_bytes W e s ok hfresh hm)
end
end Kd
end Go.Proofs.YtiolhoaoepgmcaaDoorW.PrintWords
