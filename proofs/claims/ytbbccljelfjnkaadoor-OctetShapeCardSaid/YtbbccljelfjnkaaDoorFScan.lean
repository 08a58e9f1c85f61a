/- What the loop of OctetShape over a string's runes reckons: how many runes, and whether the last one is no bad byte. Conditions: none. -/
import Derived.Test.YtbbccljelfjnkaaDoorGlob
import Derived.Test.YtbbccljelfjnkaaDoorWWords
import Derived.Test.YtbbccljelfjnkaaDoorWLast
import Derived.Lib.OthersKept
import Derived.Lib.Walk
namespace Go.Proofs.YtbbccljelfjnkaaDoor.Pr
open Go.RowKit Go.Proofs.YtbbccljelfjnkaaDoorW.PrintWords Go.Proofs.YtbbccljelfjnkaaDoorW.PrintLast
def scanF (s : ByteArray) : Nat → Nat → Int → Bool → Int × Bool
  | 0, _, n, o => (n, o)
  | f + 1, pos, n, o => if pos < s.size then scanF s f (pos + (Utf8.decode s pos).2) (wrap64 (n + 1)) (if ((Utf8.decode s pos).1 : Int) = 65533 then (s.toList == [239, 191, 189]) else true) else (n, o)
theorem scanF_step (s : ByteArray) (f pos : Nat) (n : Int) (o : Bool) (h : pos < s.size) : scanF s (f + 1) pos n o = scanF s f (pos + (Utf8.decode s pos).2) (wrap64 (n + 1)) (if ((Utf8.decode s pos).1 : Int) = 65533 then (s.toList == [239, 191, 189]) else true) := by
  rw [scanF, if_pos h]
theorem scanF_end (s : ByteArray) (f pos : Nat) (n : Int) (o : Bool) (h : ¬ pos < s.size) : scanF s f pos n o = (n, o) := by
  cases f with
  | zero => rfl
  | succ f => rw [scanF, if_neg h]
theorem dec_width (s : ByteArray) (pos : Nat) : 1 ≤ (Utf8.decode s pos).2 := by
  simp only [Utf8.decode]
  (repeat' split) <;> simp
def shapeScan.f (l0 : List Int) : Option (Int × Bool) := some (scanF (strOfNums l0) (strOfNums l0).size 0 0 false)
end Go.Proofs.YtbbccljelfjnkaaDoor.Pr
