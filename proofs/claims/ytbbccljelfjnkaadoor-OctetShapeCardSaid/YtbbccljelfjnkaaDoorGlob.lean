import Derived.Test.YtbbccljelfjnkaaDoorProg
import Derived.Below
import Derived.Deep.Draws
import Derived.OpenShut
import Derived.ProofKit
import Derived.Lib.LaidTab
import Derived.Laws.Rows
import Derived.KernelRfl
namespace Go.Proofs.YtbbccljelfjnkaaDoor.Glob
open Go.RowKit

def I (n : Int) : Value := .int .i64 n
def U (n : Int) : Value := .int .u8 n
def spansC : Array Value := #[.int .i64 0, .int .i64 127, .int .i64 1, .int .i64 128, .int .i64 191, .int .i64 2, .int .i64 192, .int .i64 193, .int .i64 6, .int .i64 194, .int .i64 223, .int .i64 3, .int .i64 224, .int .i64 239, .int .i64 4, .int .i64 240, .int .i64 244, .int .i64 5, .int .i64 245, .int .i64 255, .int .i64 6]
def needsC : Array Value := #[.int .i64 0, .int .i64 1, .int .i64 0, .int .i64 2, .int .i64 3, .int .i64 4, .int .i64 0]
def masksC : Array Value := #[.int .u8 0, .int .u8 127, .int .u8 31, .int .u8 15, .int .u8 7]

/-- The package's arrays hold what their initialisers lay. -/
def Globs (w : World) : Prop :=
  (∃ t fr, w.heap[0]? = some (.cells spansC t fr)) ∧ (∃ t fr, w.heap[1]? = some (.cells needsC t fr)) ∧ (∃ t fr, w.heap[2]? = some (.cells masksC t fr))

theorem lt_of_heap {w : World} {k : Nat} {o : Obj} (h : w.heap[k]? = some o) : k < w.heap.size := (Array.getElem?_eq_some_iff.1 h).1

theorem Globs_of {w w' : World} (h : Globs w) (hk : ∀ k, k < w.heap.size → w'.heap[k]? = w.heap[k]?) : Globs w' := by
  obtain ⟨⟨t0, f0, h0⟩, ⟨t1, f1, h1⟩, ⟨t2, f2, h2⟩⟩ := h
  exact ⟨⟨t0, f0, (hk 0 (lt_of_heap h0)).trans h0⟩, ⟨t1, f1, (hk 1 (lt_of_heap h1)).trans h1⟩, ⟨t2, f2, (hk 2 (lt_of_heap h2)).trans h2⟩⟩
theorem Globs_below {w w' : World} (h : Globs w) (hb : Below w.heap.size w w') : Globs w' := Globs_of h hb.block
theorem Globs_drew {w : World} (h : Globs w) : Globs w.drew := h
theorem Globs_drewN {w : World} (h : Globs w) (n : Nat) : Globs (w.drewN n) := h
theorem Globs_alloc {w : World} (h : Globs w) (o : Obj) : Globs (w.alloc o) := Globs_of h fun k hk => Below.heap_alloc w o k hk

theorem Globs.spans_cell {w : World} (h : Globs w) (i : Nat) : w.cell? ⟨0, i, none⟩ = spansC[i]? := by
  obtain ⟨⟨t0, f0, h0⟩, _⟩ := h
  exact cell_of_row w 0 i _ t0 f0 h0
theorem Globs.needs_cell {w : World} (h : Globs w) (i : Nat) : w.cell? ⟨1, i, none⟩ = needsC[i]? := by
  obtain ⟨_, ⟨t0, f0, h0⟩, _⟩ := h
  exact cell_of_row w 1 i _ t0 f0 h0
theorem Globs.masks_cell {w : World} (h : Globs w) (i : Nat) : w.cell? ⟨2, i, none⟩ = masksC[i]? := by
  obtain ⟨_, _, ⟨t0, f0, h0⟩⟩ := h
  exact cell_of_row w 2 i _ t0 f0 h0

end Go.Proofs.YtbbccljelfjnkaaDoor.Glob
namespace Go.Proofs.YtbbccljelfjnkaaDoor.Pr
/-- All but the first (the walk's simp leaves this name alone). -/
def drop1 (l : List Int) : List Int := l.drop 1
theorem drop1_len (l : List Int) : (drop1 l).length = (l.drop 1).length := rfl
end Go.Proofs.YtbbccljelfjnkaaDoor.Pr
