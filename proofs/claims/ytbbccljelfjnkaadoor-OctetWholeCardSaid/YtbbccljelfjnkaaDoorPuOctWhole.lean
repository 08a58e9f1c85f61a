/- Proved here: the pure statement of the law OctetWhole: every Whole and Value, of any bytes, is the reference's. Conditions: the list is a slice's (its length within the form's reach, its numbers bytes). -/
import Derived.Test.YtbbccljelfjnkaaDoorEvOct
import Derived.Test.YtbbccljelfjnkaaDoorPr5
namespace Go.Proofs.YtbbccljelfjnkaaDoor.Pure
open Go.RowKit Go.Proofs.YtbbccljelfjnkaaDoor.Pr Go.Proofs.YtbbccljelfjnkaaDoor.Math Go.Proofs.YtbbccljelfjnkaaDoor.Ev Go.Proofs.YtbbccljelfjnkaaDoorW.PrintWords Go.Proofs.YtbbccljelfjnkaaDoorW.PrintLast
theorem OctetWhole : galleylaw01_OctetWhole.Pure := by
  intro l hl hb hw
  have h := Byt.of_wf hw
  refine ⟨9, ?_⟩
  unfold galleylaw01_OctetWhole.f galleylaw01_awake.f
  have hlt : ([] : List Int).length + l.length < 140737488355328 := by simp; omega
  simp only [Option.bind_some, if_true, if_pos hlt, List.nil_append]
  rw [o_Whole 0 l h, r_Whole 0 l h, o_Value 0 l h, r_Value 0 l h]
  simp
end Go.Proofs.YtbbccljelfjnkaaDoor.Pure
