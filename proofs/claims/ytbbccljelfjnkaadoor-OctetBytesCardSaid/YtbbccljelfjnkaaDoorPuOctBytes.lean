/- Proved here: the pure statement of the law OctetBytes: every Bytes, of any number, is the reference's. Conditions: the number is an int32. -/
import Derived.Test.YtbbccljelfjnkaaDoorEvBytes
namespace Go.Proofs.YtbbccljelfjnkaaDoor.Pure
open Go.RowKit Go.Proofs.YtbbccljelfjnkaaDoor.Pr Go.Proofs.YtbbccljelfjnkaaDoor.Math Go.Proofs.YtbbccljelfjnkaaDoor.Ev Go.Proofs.YtbbccljelfjnkaaDoorW.PrintWords Go.Proofs.YtbbccljelfjnkaaDoorW.PrintLast
theorem OctetBytes : galleylaw01_OctetBytes.Pure := by
  intro r hw
  refine ⟨9, ?_⟩
  unfold galleylaw01_OctetBytes.f galleylaw01_awake.f
  simp only [Option.bind_some, if_true]
  rw [o_Bytes 0 r, r_Bytes 0 r]
  simp
end Go.Proofs.YtbbccljelfjnkaaDoor.Pure
