/- Plain facts on bytes and their encodings: no program in sight. Conditions: as each lemma says. -/
import Derived.Test.YtbbccljelfjnkaaDoorGlob
import Derived.OpenShut
import Derived.Laws.BytesArg
namespace Go.Proofs.YtbbccljelfjnkaaDoor.Math
open Go.RowKit
set_option linter.unusedVariables false
set_option linter.unusedSimpArgs false

/-- A list of bytes. -/
def Byt (l : List Int) : Prop := ∀ x ∈ l, 0 ≤ x ∧ x ≤ 255
theorem Byt.of_wf {l : List Int} (h : ∀ x ∈ l, (Lit.int .u8 x).wf = true) : Byt l := fun x hx => bounds_u8 (h x hx)

def cls (b : Int) : Int := if b < 128 then 1 else if b < 192 then 2 else if b < 194 then 6 else if b < 224 then 3 else if b < 240 then 4 else if b < 245 then 5 else 6
def need (b : Int) : Int := if b < 128 then 1 else if b < 194 then 0 else if b < 224 then 2 else if b < 240 then 3 else if b < 245 then 4 else 0
/-- May b stand behind the lead? -/
def sec (a b : Int) : Bool :=
  if a = 224 then decide (160 ≤ b ∧ b ≤ 191) else if a = 237 then decide (128 ≤ b ∧ b ≤ 159) else if a = 240 then decide (144 ≤ b ∧ b ≤ 191)
  else if a = 244 then decide (128 ≤ b ∧ b ≤ 143) else if need a > 1 then decide (128 ≤ b ∧ b ≤ 191) else false
def tl (b : Int) : Bool := decide (128 ≤ b ∧ b ≤ 191)
/-- Are these bytes just one encoding? -/
def whole : List Int → Bool
  | [x0] => decide (need x0 = 1)
  | [x0, x1] => decide (need x0 = 2) && sec x0 x1
  | [x0, x1, x2] => decide (need x0 = 3) && (sec x0 x1 && tl x2)
  | [x0, x1, x2, x3] => decide (need x0 = 4) && (sec x0 x1 && (tl x2 && tl x3))
  | _ => false
/-- The number that they encode (where they are whole). -/
def num : List Int → Int
  | [x0] => x0
  | [x0, x1] => (x0 % 32) * 64 + x1 % 64
  | [x0, x1, x2] => ((x0 % 16) * 64 + x1 % 64) * 64 + x2 % 64
  | [x0, x1, x2, x3] => (((x0 % 8) * 64 + x1 % 64) * 64 + x2 % 64) * 64 + x3 % 64
  | _ => -1
def val (l : List Int) : Int := if whole l = true then num l else -1
/-- Is the number a rune? -/
def isR (r : Int) : Bool := decide (0 ≤ r ∧ r < 55296 ∨ 57343 < r ∧ r ≤ 1114111)
/-- The encoding of a rune. -/
def enc0 (n : Int) : List Int :=
  if n < 128 then [n] else if n < 2048 then [192 + n / 64, 128 + n % 64] else if n < 65536 then [224 + n / 4096, 128 + n / 64 % 64, 128 + n % 64]
  else [240 + n / 262144, 128 + n / 4096 % 64, 128 + n / 64 % 64, 128 + n % 64]
def enc (r : Int) : List Int := if isR r = true then enc0 r else enc0 65533

theorem need_le (b : Int) : 0 ≤ need b ∧ need b ≤ 4 := by unfold need; (repeat' split) <;> omega
theorem cls_two (b : Int) (h : 0 ≤ b) (h' : b ≤ 255) : cls b = 2 ↔ 128 ≤ b ∧ b ≤ 191 := by unfold cls; (repeat' split) <;> omega
theorem sec_tail {a b : Int} (h : sec a b = true) : 128 ≤ b ∧ b ≤ 191 := by
  unfold sec at h; (repeat' split at h) <;> simp at h <;> omega

theorem wrap64_in' {n : Int} (h : -9223372036854775808 ≤ n) (h' : n ≤ 9223372036854775807) : wrap64 n = n := IntWalk.wrap64_in n ⟨h, h'⟩
theorem wrap32_in' {n : Int} (h : -2147483648 ≤ n) (h' : n ≤ 2147483647) : wrap32 n = n := by unfold wrap32; omega

/-- What an encoding looks like: its first byte tells its length, tails stand behind. -/
theorem enc0_shape (n : Int) (h0 : 0 ≤ n) (h1 : n ≤ 1114111) : ∃ x t, enc0 n = x :: t ∧ need x = (enc0 n).length ∧ (∀ y ∈ t, 128 ≤ y ∧ y ≤ 191) := by
  unfold enc0
  split
  · exact ⟨_, _, rfl, by unfold need; rw [if_pos (by omega)]; rfl, by simp⟩
  · split
    · exact ⟨_, _, rfl, by unfold need; rw [if_neg (by omega), if_neg (by omega), if_pos (by omega)]; rfl, by simp; omega⟩
    · split
      · exact ⟨_, _, rfl, by unfold need; rw [if_neg (by omega), if_neg (by omega), if_neg (by omega), if_pos (by omega)]; rfl, by simp; omega⟩
      · exact ⟨_, _, rfl, by unfold need; rw [if_neg (by omega), if_neg (by omega), if_neg (by omega), if_neg (by omega), if_pos (by omega)]; rfl, by simp; omega⟩
theorem isR_iff (r : Int) : isR r = true ↔ (0 ≤ r ∧ r < 55296 ∨ 57343 < r ∧ r ≤ 1114111) := by unfold isR; simp
theorem enc_shape (r : Int) : ∃ x t, enc r = x :: t ∧ need x = (enc r).length ∧ (∀ y ∈ t, 128 ≤ y ∧ y ≤ 191) := by
  unfold enc
  split
  · rename_i h
    rw [isR_iff] at h
    exact enc0_shape r (by omega) (by omega)
  · exact enc0_shape 65533 (by omega) (by omega)
theorem enc_byt (r : Int) : Byt (enc r) := by
  have h (n : Int) (h0 : 0 ≤ n) (h1 : n ≤ 1114111) : Byt (enc0 n) := by
    unfold enc0 Byt
    (repeat' split) <;> simp <;> omega
  unfold enc
  split
  · rename_i h'
    rw [isR_iff] at h'
    exact h r (by omega) (by omega)
  · exact h 65533 (by omega) (by omega)
theorem need_zero {x : Int} (h : 128 ≤ x ∧ x ≤ 191) : need x = 0 := by unfold need; rw [if_neg (by omega), if_pos (by omega)]

/-- Strings made of bytes are alike only where the bytes are. -/
theorem str_toList (l : List Int) : (strOfNums l).toList = l.map fun n => UInt8.ofNat n.toNat := by
  rw [ByteArray.toList_eq, strOfNums_data]
theorem u8_inj {x y : Int} (hx : 0 ≤ x ∧ x ≤ 255) (hy : 0 ≤ y ∧ y ≤ 255) (h : UInt8.ofNat x.toNat = UInt8.ofNat y.toNat) : x = y := by
  have := congrArg UInt8.toNat h
  simp at this
  omega
theorem str_inj {l m : List Int} (hl : Byt l) (hm : Byt m) (h : (strOfNums l).toList = (strOfNums m).toList) : l = m := by
  rw [str_toList, str_toList] at h
  induction l generalizing m with
  | nil => cases m with
    | nil => rfl
    | cons y m => simp at h
  | cons x l ih => cases m with
    | nil => simp at h
    | cons y m =>
      simp only [List.map_cons, List.cons.injEq] at h
      rw [u8_inj (hl x (by simp)) (hm y (by simp)) h.1, ih (fun z hz => hl z (by simp [hz])) (fun z hz => hm z (by simp [hz])) h.2]

end Go.Proofs.YtbbccljelfjnkaaDoor.Math
