/- The contract of step.first in the print's own form. Conditions: the string has a byte or more; step.bad's cells are as laid. -/
import Derived.Test.YtiolhoaoepgmcaaDoorFFirst
namespace Go.Proofs.YtiolhoaoepgmcaaDoor.Pr
open Go.RowKit Go.Proofs.YtiolhoaoepgmcaaDoorW.PrintWords Go.Proofs.YtiolhoaoepgmcaaDoorW.PrintLast Go.Proofs.YtiolhoaoepgmcaaDoorW.PrintMore
def step_first.f (a0 : ByteArray) : Option (Int × Int × Bool) := if 0 < a0.size then some (stepF a0) else none
theorem step_first.calls (a0 : ByteArray) (r1 : Int) (r2 : Int) (r3 : Bool) (w : World) (hG : Glob.Globs w) (h : step_first.f a0 = some (r1, r2, r3)) :
    Calls Tryd.prog 42 #[.string a0] w fun e w' => e = .returned (.agg #[.int .i32 r1, .int .i64 r2, .bool r3]) ∧ Below w.heap.size w w' := by
  unfold step_first.f at h
  split at h
  · rename_i hs
    have e := Option.some.inj h
    refine (step_first.raw a0 hs w hG.bad).mono ?_
    rintro e' w' ⟨rfl, hb⟩
    exact ⟨by rw [e]; rfl, hb⟩
  · cases h
end Go.Proofs.YtiolhoaoepgmcaaDoor.Pr
