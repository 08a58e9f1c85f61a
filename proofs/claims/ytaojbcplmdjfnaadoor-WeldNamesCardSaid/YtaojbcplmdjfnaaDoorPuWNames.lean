/- The pure statement of the law WeldNames: a closed sentence. Conditions: none. -/
import Derived.Test.YtaojbcplmdjfnaaDoorPr11
namespace Go.Proofs.YtaojbcplmdjfnaaDoor.PuWNames
open Go.RowKit Go.Proofs.YtaojbcplmdjfnaaDoor.Pr
set_option maxRecDepth 100000 in
theorem WeldNames : galleylaw05_WeldNames.Pure := ⟨40, by kernel_rfl⟩

end Go.Proofs.YtaojbcplmdjfnaaDoor.PuWNames
