/- The contract of the iterator that step.All makes, by hand. Conditions: the captured string's cell and step.bad's block lie as they lay; a round keeps them, and the walks. -/
import Derived.Test.YtiolhoaoepgmcaaDoorFFirst
import Derived.RangeFuncNested
import Derived.RangeFuncBound
import Derived.RangeFuncCalls
import Derived.RangeFuncLeaves
import Derived.RangeFuncBox
import Derived.Shelf.Abstract
import Derived.Shelf.RegionOpen
import Derived.WalkKit
import Derived.OwnWalkIn
import Derived.TacticsInMore
import Derived.LoopNIn
import Derived.LoopIn
namespace Go.Proofs.YtiolhoaoepgmcaaDoor.Pr
open Go.RowKit Go.Shelf Go.Proofs.YtiolhoaoepgmcaaDoorW.PrintWords Go.Proofs.YtiolhoaoepgmcaaDoorW.PrintLast Go.Proofs.YtiolhoaoepgmcaaDoorW.PrintMore
set_option linter.unusedVariables false
set_option linter.unusedSimpArgs false
attribute [local go_sem] Oper.semAt_some

/-- A place and the step there. -/
abbrev PStep := Nat × Int × Int × Bool
def encP (x : PStep) : Array Value := #[.int .i64 (x.1 : Int), stepA x.2]
def stepsN (s : ByteArray) : Nat → Nat → List PStep
  | 0, _ => []
  | f + 1, pos => if pos < s.size then (pos, stepF (s.extract pos s.size)) :: stepsN s f (pos + (Utf8.decode s pos).2) else []
/-- What a round keeps: the two blocks, and the walks. -/
def KpS (B g : Nat) (W W' : World) : Prop := (W'.heap[B]? = W.heap[B]? ∧ W'.heap[g]? = W.heap[g]?) ∧ KeepsWalks W W'
theorem KpS.t {B g : Nat} {A C D : World} (h : KpS B g A C) (k : KpS B g C D) : KpS B g A D := ⟨⟨k.1.1.trans h.1.1, k.1.2.trans h.1.2⟩, h.2.trans k.2⟩
theorem KpS.b {B g n : Nat} (hB : B < n) (hg : g < n) (W : World) (l : Nat) (o o' : Obj) (hl : n ≤ l) (h : W.heap[l]? = some o) (_ : o.isCells = false) (hw : o.isWalk = false) : KpS B g W (W.putObj l o') :=
  ⟨⟨World.putObj_heap_other (by omega), World.putObj_heap_other (by omega)⟩, KeepsWalks.putObj _ h hw⟩
theorem grown_iterAt {W : World} {k : Nat} (s : ByteArray) (pos : Nat) : W.grownBy (W.iterAt k s pos) (some k) :=
  ⟨rfl, rfl, rfl, by rw [Lib.iterAt_size]; exact Nat.le_refl _, fun i _ hne => Lib.iterAt_other _ _ _ _ _ (fun e => hne (by rw [e]))⟩
theorem grown_below {W W' : World} (h : Below W.heap.size W W') : W.grownBy W' none := ⟨h.os, h.tape, h.output, h.size, fun k hk _ => h.block k hk⟩
theorem width_pos (s : ByteArray) (pos : Nat) : 1 ≤ (Utf8.decode s pos).2 := by
  simp only [Utf8.decode]
  (repeat' split) <;> simp

set_option maxRecDepth 100000 in
set_option maxHeartbeats 8000000 in
theorem all_stops (n : Nat) (hn : 1 ≤ n) (B : Nat) (s : ByteArray) (w : World) (hB : w.heap[B]? = some (.cells #[.string s] 9 (0, 0))) (hb : ∃ t fr, w.heap[0]? = some (.cells Glob.badC t fr)) :
    SeqStopsK Fence.wide n Tryd.prog 41 #[.pointer (some ⟨B, 0, none⟩)] encP (KpS B 0) (fun xs => xs = stepsN s s.size 0) (fun pre => pre <+: stepsN s s.size 0) (stepsN s s.size 0).length w := by
  intro l J Jx W hW hJ hJx hY h0
  have hBw : B < w.heap.size := Glob.lt_of_heap hB
  have hBW : W.heap[B]? = some (.cells #[.string s] 9 (0, 0)) := (hW.block _ hBw).trans hB
  obtain ⟨bt, bfr, hbad0⟩ := hb
  have hbadlt : 0 < w.heap.size := Glob.lt_of_heap hbad0
  have hbadW : W.heap[0]? = some (.cells Glob.badC bt bfr) := (hW.block _ hbadlt).trans hbad0
  have hBW' : B < W.heap.size := Glob.lt_of_heap hBW
  have hgW' : 0 < W.heap.size := Glob.lt_of_heap hbadW
  have hcs : W.cell? ⟨B, 0, none⟩ = some (.string s) := by rw [cell_of_row _ _ _ _ _ _ hBW]; rfl
  refine callsIn_of_wp Tryd.func41 rfl trivial ?_ rfl
  simp only [Tryd.ntmps41, List.size_toArray, List.length_cons, List.length_nil, Nat.reduceAdd, Nat.reduceSub, Array.replicate_succ, Array.replicate_zero, List.push_toArray, List.append_toArray, List.nil_append, List.cons_append]
  gi_wp2
  gi_loopw [3] (fun _ wr => ∃ (pre : List PStep) (pos fuel : Nat), pre ++ stepsN s fuel pos = stepsN s s.size 0 ∧ s.size ≤ pos + fuel ∧ wr.heap[W.heap.size]? = some (.stringIter s pos) ∧ wr.heap[B]? = some (.cells #[.string s] 9 (0, 0)) ∧ wr.heap[0]? = some (.cells Glob.badC bt bfr) ∧ J pre wr)
    (fun _ wr => s.size - wr.iterPos W.heap.size)
  case atStart =>
    refine ⟨[], 0, s.size, rfl, by omega, World.iter_heap W s 0, (Below.heap_alloc _ _ _ hBW').trans hBW, (Below.heap_alloc _ _ _ hgW').trans hbadW, hJ _ _ _ none h0 (World.grownBy_alloc W _ none) (by simp)⟩
  case round =>
    obtain ⟨pre, pos, fuel, hsum, hfu, hit, hBr, hbr, hJr⟩ := hrel
    by_cases hp : pos < s.size
    · obtain ⟨f, rfl⟩ : ∃ f, fuel = f + 1 := ⟨fuel - 1, by omega⟩
      have hsum2 : pre ++ (pos, stepF (s.extract pos s.size)) :: stepsN s f (pos + (Utf8.decode s pos).2) = stepsN s s.size 0 := by rw [← hsum, stepsN, if_pos hp]
      have hlen : pre.length < (stepsN s s.size 0).length := by rw [← hsum2]; simp
      have hnx : ∀ ty, (Instr.next (.pointer (some ⟨W.heap.size, 0, none⟩)) true ty).run Tryd.prog wr = _ := fun ty => Lib.run_next_any_at wr W.heap.size s pos ty hit hp
      have hwd := width_pos s pos
      have hit2 := Lib.iterAt_heap wr W.heap.size s pos (pos + (Utf8.decode s pos).2) hit
      have hB2 := (Lib.iterAt_other wr W.heap.size B s (pos + (Utf8.decode s pos).2) (by omega)).trans hBr
      have hb2 := (Lib.iterAt_other wr W.heap.size 0 s (pos + (Utf8.decode s pos).2) (by omega)).trans hbr
      have hJ2 := hJ _ _ _ (some W.heap.size) hJr (grown_iterAt s (pos + (Utf8.decode s pos).2)) (fun r e => by cases e; exact ⟨Nat.le_refl _, _, hit, rfl⟩)
      obtain ⟨W2, hW2⟩ : ∃ W2, wr.iterAt W.heap.size s (pos + (Utf8.decode s pos).2) = W2 := ⟨_, rfl⟩
      rw [hW2] at hit2 hB2 hb2 hJ2
      have hnx2 := fun ty => (hnx ty).trans (congrArg (Result.ok _) hW2)
      clear hnx hW2 hBr hbr hJr
      have hcs2 : W2.cell? ⟨B, 0, none⟩ = some (.string s) := by rw [cell_of_row _ _ _ _ _ _ hB2]; rfl
      have hsz : 0 < (s.extract pos s.size).size := by rw [ByteArray.size_extract]; omega
      gi_wp2_with (refine ⟨trivial, ?_⟩; gi_at_call 42; refine (callsIn_wide.2 (step_first.raw (s.extract pos s.size) hsz W2 ⟨_, _, hb2⟩)).mono ?_; rintro e W3 ⟨rfl, hb3⟩; obtain ⟨fn, tmps, assign, body, hy, hR⟩ := hY pre (pos, stepF (s.extract pos s.size)) W3 (hJ _ _ _ none hJ2 (grown_below hb3) (by simp)) hlen; dsimp only [encP] at hy)
      have hit3 := (hb3.block _ (Glob.lt_of_heap hit2)).trans hit2
      have hB3 := (hb3.block _ (Glob.lt_of_heap hB2)).trans hB2
      have hg3 := (hb3.block _ (Glob.lt_of_heap hb2)).trans hb2
      refine hR.mono ?_
      rintro e W4 (⟨rfl, hJ4, hk4⟩ | ⟨rfl, hJx4⟩)
      · have hit4 := hk4.2.same _ _ hit3 rfl
        gi_wp2
        go_roundw
        case rel => exact ⟨pre ++ [(pos, stepF (s.extract pos s.size))], pos + (Utf8.decode s pos).2, f, by rw [List.append_assoc]; exact hsum2, by omega, hit4, hk4.1.1.trans hB3, hk4.1.2.trans hg3, hJ4⟩
        case measure => simp only [World.iterPos, hit4, hit]; omega
      · gi_wp2
        refine bodyPost_ret (results_none rfl _ _ _) rfl ?_
        exact ⟨⟨_, rfl⟩, .inr ⟨_, ⟨stepsN s f (pos + (Utf8.decode s pos).2), by rw [List.append_assoc]; exact hsum2⟩, hJx4⟩⟩
    · have hnil : stepsN s fuel pos = [] := by cases fuel with | zero => rfl | succ f => rw [stepsN, if_neg hp]
      rw [hnil, List.append_nil] at hsum
      have hnx : ∀ ty, (Instr.next (.pointer (some ⟨W.heap.size, 0, none⟩)) true ty).run Tryd.prog wr = _ := fun ty => Lib.run_next_end_at wr W.heap.size s pos ty hit hp
      gi_wp2
      go_end0
      exact ⟨⟨_, rfl⟩, .inl ⟨_, hsum, hJr⟩⟩
end Go.Proofs.YtiolhoaoepgmcaaDoor.Pr
