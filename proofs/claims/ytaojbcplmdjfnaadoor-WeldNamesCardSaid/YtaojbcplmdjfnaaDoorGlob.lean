/- The package arrays that the program reads, as one predicate on worlds (Globs); two small words of the driver's. Conditions: none. -/
import Derived.Test.YtaojbcplmdjfnaaDoorProg
import Derived.Below
import Derived.Deep.Draws
import Derived.OpenShut
import Derived.ProofKit
import Derived.Lib.LaidTab
import Derived.Laws.Rows
import Derived.KernelRfl
namespace Go.Proofs.YtaojbcplmdjfnaaDoor.Glob
open Go.RowKit

def spansC : Array Value := #[.int .i64 0, .int .i64 127, .int .i64 1, .int .i64 128, .int .i64 191, .int .i64 2, .int .i64 192, .int .i64 193, .int .i64 6, .int .i64 194, .int .i64 223, .int .i64 3, .int .i64 224, .int .i64 239, .int .i64 4, .int .i64 240, .int .i64 244, .int .i64 5, .int .i64 245, .int .i64 255, .int .i64 6]
def needsC : Array Value := #[.int .i64 0, .int .i64 1, .int .i64 0, .int .i64 2, .int .i64 3, .int .i64 4, .int .i64 0]
def badC : Array Value := #[.int .i32 65533, .int .i64 1, .bool false]
def masksC : Array Value := #[.int .u8 0, .int .u8 127, .int .u8 31, .int .u8 15, .int .u8 7]

/-- The package's arrays hold what their initialisers lay. -/
def Globs (w : World) : Prop :=
  (∃ t fr, w.heap[3]? = some (.cells spansC t fr)) ∧ (∃ t fr, w.heap[2]? = some (.cells needsC t fr)) ∧ (∃ t fr, w.heap[1]? = some (.cells masksC t fr)) ∧ (∃ t fr, w.heap[0]? = some (.cells badC t fr))

theorem lt_of_heap {w : World} {k : Nat} {o : Obj} (h : w.heap[k]? = some o) : k < w.heap.size := (Array.getElem?_eq_some_iff.1 h).1

theorem Globs_of {w w' : World} (h : Globs w) (hk : ∀ k, k < w.heap.size → w'.heap[k]? = w.heap[k]?) : Globs w' := by
  obtain ⟨⟨t0, f0, h0⟩, ⟨t1, f1, h1⟩, ⟨t2, f2, h2⟩, ⟨t3, f3, h3⟩⟩ := h
  exact ⟨⟨t0, f0, (hk _ (lt_of_heap h0)).trans h0⟩, ⟨t1, f1, (hk _ (lt_of_heap h1)).trans h1⟩, ⟨t2, f2, (hk _ (lt_of_heap h2)).trans h2⟩, ⟨t3, f3, (hk _ (lt_of_heap h3)).trans h3⟩⟩
theorem Globs_below {w w' : World} (h : Globs w) (hb : Below w.heap.size w w') : Globs w' := Globs_of h hb.block
theorem Globs_drew {w : World} (h : Globs w) : Globs w.drew := h
theorem Globs_drewN {w : World} (h : Globs w) (n : Nat) : Globs (w.drewN n) := h
theorem Globs_alloc {w : World} (h : Globs w) (o : Obj) : Globs (w.alloc o) := Globs_of h fun k hk => Below.heap_alloc w o k hk

theorem Globs.spans {w : World} (h : Globs w) : ∃ t fr, w.heap[3]? = some (.cells spansC t fr) := h.1
theorem Globs.needs_cell {w : World} (h : Globs w) (i : Nat) : w.cell? ⟨2, i, none⟩ = needsC[i]? := by
  obtain ⟨_, ⟨t0, f0, h0⟩, _⟩ := h
  exact cell_of_row w _ i _ t0 f0 h0
theorem Globs.masks_cell {w : World} (h : Globs w) (i : Nat) : w.cell? ⟨1, i, none⟩ = masksC[i]? := by
  obtain ⟨_, _, ⟨t0, f0, h0⟩, _⟩ := h
  exact cell_of_row w _ i _ t0 f0 h0
theorem Globs.bad {w : World} (h : Globs w) : ∃ t fr, w.heap[0]? = some (.cells badC t fr) := h.2.2.2
end Go.Proofs.YtaojbcplmdjfnaaDoor.Glob
namespace Go.Proofs.YtaojbcplmdjfnaaDoor.Pr
/-- All but the first (the walk's simp leaves this name alone). -/
def drop1 (l : List Int) : List Int := l.drop 1
theorem drop1_len (l : List Int) : (drop1 l).length = (l.drop 1).length := rfl
/-- What the language makes of a number as a string. -/
def strOfRune (r : Int) : ByteArray := Utf8.encode r
theorem run_convert_rune {P : Program} (w : World) (src dst : TypeId) (n : Int) (hs : P.underlying src = some (.int .i32)) (hd : P.underlying dst = some .string) :
    (convert src dst (.int .i32 n)).run P w = .ok (.string (strOfRune n)) w := by
  simp [convert, run_underlying hs, run_underlying hd, Conv.intToString, strOfRune]
end Go.Proofs.YtaojbcplmdjfnaaDoor.Pr
