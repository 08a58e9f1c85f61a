/- Proved here: the law TopNumbers returns true: the printed function answers 'some true' with 64 rounds. Conditions: none (a closed sentence). -/
import Derived.Test.YtmijgdjokkhipaaPTopNumbersx1
namespace Go.Proofs.Ytmijgdjokkhipaa.Pure
open Go.RowKit Go.Proofs.Ytmijgdjokkhipaa.PTopNumbers Go.Proofs.YtmijgdjokkhipaaW.PrintWords Go.Proofs.YtmijgdjokkhipaaW.PrintLast

/-- YOURS: ∃ k, galleytop_TopNumbers.f k  = some true
What it reaches (each with k first where it has rounds; `.mono`: more rounds tell the same; `.l0`, ..: its loops, with `.mono_l`): galleytop_sameInts.f, galleytop_limits.f, galleytop_errors.f, galleytop_kinds.f, galleytop_TopNumbers.f -/
theorem TopNumbers : galleytop_TopNumbers.Pure := ⟨64, by decide +kernel⟩

end Go.Proofs.Ytmijgdjokkhipaa.Pure
