/- Proved here: the law OctetNames returns true: the printed function without loops answers 'some true'. Conditions: none (a closed sentence). -/
import Derived.Test.YtmijgdjokkhipaaPOctetNamesx1
namespace Go.Proofs.Ytmijgdjokkhipaa.Pure
open Go.RowKit Go.Proofs.Ytmijgdjokkhipaa.POctetNames Go.Proofs.YtmijgdjokkhipaaW.PrintWords Go.Proofs.YtmijgdjokkhipaaW.PrintLast

/-- YOURS: galleylaw01_OctetNames.f  = some true
What it reaches (each with k first where it has rounds; `.mono`: more rounds tell the same; `.l0`, ..: its loops, with `.mono_l`): galleylaw01_OctetNames.f -/
theorem OctetNames : galleylaw01_OctetNames.Pure := rfl

end Go.Proofs.Ytmijgdjokkhipaa.Pure
