import Derived.Test.YtbbccljelfjnkaaDoorFClass
namespace Go.Proofs.YtbbccljelfjnkaaDoor.Pr
open Go.RowKit
set_option linter.unusedVariables false
set_option linter.unusedSimpArgs false

/-- How many bytes an encoding has that begins with this byte. -/
def needN (b : Int) : Int := if b < 128 then 1 else if b < 194 then 0 else if b < 224 then 2 else if b < 240 then 3 else if b < 245 then 4 else 0
def octet_Need.f (a0 : Int) : Option Int := if 0 ≤ a0 ∧ a0 ≤ 255 then some (needN a0) else none

set_option maxHeartbeats 8000000 in
set_option maxRecDepth 100000 in
theorem octet_Need.calls (a0 : Int) (r : Int) (w : World) (hG : Glob.Globs w) (h : octet_Need.f a0 = some r) :
    Calls Tryd.prog 13 #[.int .u8 a0] w fun e w' => e = .returned (.int .i64 r) ∧ Below w.heap.size w w' := by
  unfold octet_Need.f at h
  split at h
  · rename_i hr
    obtain ⟨h0, h1⟩ := hr
    have hr := Option.some.inj h
    have HR := Lib.hid hr
    have HG := Lib.hid hG
    clear hr h hG
    have hc : octet_Class.f a0 = some (clsN a0) := by unfold octet_Class.f; rw [if_pos ⟨h0, h1⟩]
    have HC := Lib.hid hc
    clear hc
    have hcell : ∀ w1 : World, Below w.heap.size w w1 → w1.cell? ⟨1, (clsN a0).toNat, none⟩ = some (.int .i64 (needN a0)) := by
      intro w1 hb
      have hG1 := Glob.Globs_below HG.out hb
      rw [hG1.needs_cell]
      unfold clsN needN; (repeat' split) <;> first | rfl | omega
    have HL := Lib.hid hcell
    clear hcell
    have hcr : 0 ≤ clsN a0 ∧ clsN a0 < 7 := by unfold clsN; (repeat' split) <;> omega
    obtain ⟨hc0, hc7⟩ := hcr
    go_enter Tryd.func13, Tryd.ntmps13
    go_wp2_with (go_at_call 11; refine (octet_Class.calls a0 (clsN a0) _ HG.out HC.out).mono ?_; rintro e w1 ⟨rfl, hb⟩; have hl := HL.out w1 hb)
    go_ret
    exact ⟨ret_i64 (HR.out), hb⟩
  · cases h
end Go.Proofs.YtbbccljelfjnkaaDoor.Pr
