/- The package arrays that the program reads, as one predicate on worlds (Globs); two small words of the driver's. Conditions: none. -/
import Derived.Test.YtiolhoaoepgmcaaDoorProg
import Derived.Below
import Derived.Deep.Draws
import Derived.OpenShut
import Derived.ProofKit
import Derived.Lib.LaidTab
import Derived.Laws.Rows
import Derived.KernelRfl
namespace Go.Proofs.YtiolhoaoepgmcaaDoor.Glob
open Go.RowKit

def badC : Array Value := #[.int .i32 65533, .int .i64 1, .bool false]
/-- The package's variable holds what its initialiser lays. -/
def Globs (w : World) : Prop := ∃ t fr, w.heap[0]? = some (.cells badC t fr)

theorem lt_of_heap {w : World} {k : Nat} {o : Obj} (h : w.heap[k]? = some o) : k < w.heap.size := (Array.getElem?_eq_some_iff.1 h).1

theorem Globs_of {w w' : World} (h : Globs w) (hk : ∀ k, k < w.heap.size → w'.heap[k]? = w.heap[k]?) : Globs w' := by
  obtain ⟨t3, f3, h3⟩ := h
  exact ⟨t3, f3, (hk _ (lt_of_heap h3)).trans h3⟩
theorem Globs_below {w w' : World} (h : Globs w) (hb : Below w.heap.size w w') : Globs w' := Globs_of h hb.block
theorem Globs_drew {w : World} (h : Globs w) : Globs w.drew := h
theorem Globs_drewN {w : World} (h : Globs w) (n : Nat) : Globs (w.drewN n) := h
theorem Globs_alloc {w : World} (h : Globs w) (o : Obj) : Globs (w.alloc o) := Globs_of h fun k hk => Below.heap_alloc w o k hk

theorem Globs.bad {w : World} (h : Globs w) : ∃ t fr, w.heap[0]? = some (.cells badC t fr) := h
end Go.Proofs.YtiolhoaoepgmcaaDoor.Glob
namespace Go.Proofs.YtiolhoaoepgmcaaDoor.Pr
/-- All but the first (the walk's simp leaves this name alone). -/
def drop1 (l : List Int) : List Int := l.drop 1
theorem drop1_len (l : List Int) : (drop1 l).length = (l.drop 1).length := rfl
/-- What the language makes of a number as a string. -/
def strOfRune (r : Int) : ByteArray := Utf8.encode r
theorem run_convert_rune {P : Program} (w : World) (src dst : TypeId) (n : Int) (hs : P.underlying src = some (.int .i32)) (hd : P.underlying dst = some .string) :
    (convert src dst (.int .i32 n)).run P w = .ok (.string (strOfRune n)) w := by
  simp [convert, run_underlying hs, run_underlying hd, Conv.intToString, strOfRune]
end Go.Proofs.YtiolhoaoepgmcaaDoor.Pr
