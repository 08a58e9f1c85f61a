/- Plain facts on bytes and their encodings: no program in sight. Conditions: as each lemma says. -/
import Derived.Test.YtiolhoaoepgmcaaDoorGlob
import Derived.OpenShut
import Derived.Laws.BytesArg
import Derived.Laws.Strings
namespace Go.Proofs.YtiolhoaoepgmcaaDoor.Math
open Go.RowKit
set_option linter.unusedVariables false
set_option linter.unusedSimpArgs false

/-- A list of bytes. -/
def Byt (l : List Int) : Prop := ∀ x ∈ l, 0 ≤ x ∧ x ≤ 255
theorem Byt.of_wf {l : List Int} (h : ∀ x ∈ l, (Lit.int .u8 x).wf = true) : Byt l := fun x hx => bounds_u8 (h x hx)

def cls (b : Int) : Int := if b < 128 then 1 else if b < 192 then 2 else if b < 194 then 6 else if b < 224 then 3 else if b < 240 then 4 else if b < 245 then 5 else 6
def need (b : Int) : Int := if b < 128 then 1 else if b < 194 then 0 else if b < 224 then 2 else if b < 240 then 3 else if b < 245 then 4 else 0
/-- May b stand behind the lead? -/
def sec (a b : Int) : Bool :=
  if a = 224 then decide (160 ≤ b ∧ b ≤ 191) else if a = 237 then decide (128 ≤ b ∧ b ≤ 159) else if a = 240 then decide (144 ≤ b ∧ b ≤ 191)
  else if a = 244 then decide (128 ≤ b ∧ b ≤ 143) else if need a > 1 then decide (128 ≤ b ∧ b ≤ 191) else false
def tl (b : Int) : Bool := decide (128 ≤ b ∧ b ≤ 191)
/-- Are these bytes just one encoding? -/
def whole : List Int → Bool
  | [x0] => decide (need x0 = 1)
  | [x0, x1] => decide (need x0 = 2) && sec x0 x1
  | [x0, x1, x2] => decide (need x0 = 3) && (sec x0 x1 && tl x2)
  | [x0, x1, x2, x3] => decide (need x0 = 4) && (sec x0 x1 && (tl x2 && tl x3))
  | _ => false
/-- The number that they encode (where they are whole). -/
def num : List Int → Int
  | [x0] => x0
  | [x0, x1] => (x0 % 32) * 64 + x1 % 64
  | [x0, x1, x2] => ((x0 % 16) * 64 + x1 % 64) * 64 + x2 % 64
  | [x0, x1, x2, x3] => (((x0 % 8) * 64 + x1 % 64) * 64 + x2 % 64) * 64 + x3 % 64
  | _ => -1
def val (l : List Int) : Int := if whole l = true then num l else -1
/-- Is the number a rune? -/
def isR (r : Int) : Bool := decide (0 ≤ r ∧ r < 55296 ∨ 57343 < r ∧ r ≤ 1114111)
/-- The encoding of a rune. -/
def enc0 (n : Int) : List Int :=
  if n < 128 then [n] else if n < 2048 then [192 + n / 64, 128 + n % 64] else if n < 65536 then [224 + n / 4096, 128 + n / 64 % 64, 128 + n % 64]
  else [240 + n / 262144, 128 + n / 4096 % 64, 128 + n / 64 % 64, 128 + n % 64]
def enc (r : Int) : List Int := if isR r = true then enc0 r else enc0 65533

theorem need_le (b : Int) : 0 ≤ need b ∧ need b ≤ 4 := by unfold need; (repeat' split) <;> omega
theorem cls_two (b : Int) (h : 0 ≤ b) (h' : b ≤ 255) : cls b = 2 ↔ 128 ≤ b ∧ b ≤ 191 := by unfold cls; (repeat' split) <;> omega
theorem sec_tail {a b : Int} (h : sec a b = true) : 128 ≤ b ∧ b ≤ 191 := by
  unfold sec at h; (repeat' split at h) <;> simp at h <;> omega

theorem wrap64_in' {n : Int} (h : -9223372036854775808 ≤ n) (h' : n ≤ 9223372036854775807) : wrap64 n = n := IntWalk.wrap64_in n ⟨h, h'⟩
theorem wrap32_in' {n : Int} (h : -2147483648 ≤ n) (h' : n ≤ 2147483647) : wrap32 n = n := by unfold wrap32; omega

/-- What an encoding looks like: its first byte tells its length, tails stand behind. -/
theorem enc0_shape (n : Int) (h0 : 0 ≤ n) (h1 : n ≤ 1114111) : ∃ x t, enc0 n = x :: t ∧ need x = (enc0 n).length ∧ (∀ y ∈ t, 128 ≤ y ∧ y ≤ 191) := by
  unfold enc0
  split
  · exact ⟨_, _, rfl, by unfold need; rw [if_pos (by omega)]; rfl, by simp⟩
  · split
    · exact ⟨_, _, rfl, by unfold need; rw [if_neg (by omega), if_neg (by omega), if_pos (by omega)]; rfl, by simp; omega⟩
    · split
      · exact ⟨_, _, rfl, by unfold need; rw [if_neg (by omega), if_neg (by omega), if_neg (by omega), if_pos (by omega)]; rfl, by simp; omega⟩
      · exact ⟨_, _, rfl, by unfold need; rw [if_neg (by omega), if_neg (by omega), if_neg (by omega), if_neg (by omega), if_pos (by omega)]; rfl, by simp; omega⟩
theorem isR_iff (r : Int) : isR r = true ↔ (0 ≤ r ∧ r < 55296 ∨ 57343 < r ∧ r ≤ 1114111) := by unfold isR; simp
theorem enc_shape (r : Int) : ∃ x t, enc r = x :: t ∧ need x = (enc r).length ∧ (∀ y ∈ t, 128 ≤ y ∧ y ≤ 191) := by
  unfold enc
  split
  · rename_i h
    rw [isR_iff] at h
    exact enc0_shape r (by omega) (by omega)
  · exact enc0_shape 65533 (by omega) (by omega)
theorem enc_byt (r : Int) : Byt (enc r) := by
  have h (n : Int) (h0 : 0 ≤ n) (h1 : n ≤ 1114111) : Byt (enc0 n) := by
    unfold enc0 Byt
    (repeat' split) <;> simp <;> omega
  unfold enc
  split
  · rename_i h'
    rw [isR_iff] at h'
    exact h r (by omega) (by omega)
  · exact h 65533 (by omega) (by omega)
theorem need_zero {x : Int} (h : 128 ≤ x ∧ x ≤ 191) : need x = 0 := by unfold need; rw [if_neg (by omega), if_pos (by omega)]

/-- Strings made of bytes are alike only where the bytes are. -/
theorem str_toList (l : List Int) : (strOfNums l).toList = l.map fun n => UInt8.ofNat n.toNat := by
  rw [ByteArray.toList_eq, strOfNums_data]
theorem u8_inj {x y : Int} (hx : 0 ≤ x ∧ x ≤ 255) (hy : 0 ≤ y ∧ y ≤ 255) (h : UInt8.ofNat x.toNat = UInt8.ofNat y.toNat) : x = y := by
  have := congrArg UInt8.toNat h
  simp at this
  omega
theorem str_inj {l m : List Int} (hl : Byt l) (hm : Byt m) (h : (strOfNums l).toList = (strOfNums m).toList) : l = m := by
  rw [str_toList, str_toList] at h
  induction l generalizing m with
  | nil => cases m with
    | nil => rfl
    | cons y m => simp at h
  | cons x l ih => cases m with
    | nil => simp at h
    | cons y m =>
      simp only [List.map_cons, List.cons.injEq] at h
      rw [u8_inj (hl x (by simp)) (hm y (by simp)) h.1, ih (fun z hz => hl z (by simp [hz])) (fun z hz => hm z (by simp [hz])) h.2]

/-! ### There and back -/
theorem need_1 {x : Int} (h : x < 128) : need x = 1 := by unfold need; rw [if_pos h]
theorem need_2 {x : Int} (h : 194 ≤ x) (h' : x < 224) : need x = 2 := by unfold need; rw [if_neg (by omega), if_neg (by omega), if_pos h']
theorem need_3 {x : Int} (h : 224 ≤ x) (h' : x < 240) : need x = 3 := by unfold need; rw [if_neg (by omega), if_neg (by omega), if_neg (by omega), if_pos h']
theorem need_4 {x : Int} (h : 240 ≤ x) (h' : x < 245) : need x = 4 := by unfold need; rw [if_neg (by omega), if_neg (by omega), if_neg (by omega), if_neg (by omega), if_pos h']
theorem sec_iff (a b : Int) : sec a b = true ↔ (need a > 1 ∧ 128 ≤ b ∧ b ≤ 191 ∧ (a = 224 → 160 ≤ b) ∧ (a = 237 → b ≤ 159) ∧ (a = 240 → 144 ≤ b) ∧ (a = 244 → b ≤ 143)) := by
  unfold sec
  by_cases h1 : a = 224
  · subst h1; simp [need]; omega
  by_cases h2 : a = 237
  · subst h2; simp [need]; omega
  by_cases h3 : a = 240
  · subst h3; simp [need]; omega
  by_cases h4 : a = 244
  · subst h4; simp [need]; omega
  by_cases h5 : need a > 1 <;> simp [h1, h2, h3, h4, h5]
theorem tl_iff (b : Int) : tl b = true ↔ 128 ≤ b ∧ b ≤ 191 := by unfold tl; simp
theorem enc0_back (n : Int) (h0 : 0 ≤ n) (h1 : n ≤ 1114111) (hs : ¬ (55296 ≤ n ∧ n ≤ 57343)) : whole (enc0 n) = true ∧ num (enc0 n) = n := by
  unfold enc0
  split
  · simp only [whole, num, need_1 (show n < 128 by assumption), decide_true, and_self]
  · split
    · have e : sec (192 + n / 64) (128 + n % 64) = true := by
        rw [sec_iff, need_2 (by omega) (by omega)]; omega
      simp only [whole, num, e, need_2 (show 194 ≤ 192 + n / 64 by omega) (by omega), decide_true, Bool.and_self, true_and]
      omega
    · split
      · have e : sec (224 + n / 4096) (128 + n / 64 % 64) = true := by
          rw [sec_iff, need_3 (by omega) (by omega)]; omega
        have e2 : tl (128 + n % 64) = true := by rw [tl_iff]; omega
        simp only [whole, num, e, e2, need_3 (show 224 ≤ 224 + n / 4096 by omega) (by omega), decide_true, Bool.and_self, true_and]
        omega
      · have e : sec (240 + n / 262144) (128 + n / 4096 % 64) = true := by
          rw [sec_iff, need_4 (by omega) (by omega)]; omega
        have e2 : tl (128 + n / 64 % 64) = true := by rw [tl_iff]; omega
        have e3 : tl (128 + n % 64) = true := by rw [tl_iff]; omega
        simp only [whole, num, e, e2, e3, need_4 (show 240 ≤ 240 + n / 262144 by omega) (by omega), decide_true, Bool.and_self, true_and]
        omega
theorem whole_enc (r : Int) : whole (enc r) = true := by
  unfold enc
  split
  · rename_i h; rw [isR_iff] at h; exact (enc0_back r (by omega) (by omega) (by omega)).1
  · exact (enc0_back 65533 (by omega) (by omega) (by omega)).1
theorem val_enc (r : Int) (h : isR r = true) : val (enc r) = r := by
  unfold val
  rw [if_pos (whole_enc r)]
  unfold enc
  rw [if_pos h]
  rw [isR_iff] at h
  exact (enc0_back r (by omega) (by omega) (by omega)).2
theorem enc_not (r : Int) (h : isR r = false) : enc r = [239, 191, 189] := by
  unfold enc
  rw [if_neg (by simp [h])]
  decide
theorem enc_inj {r s : Int} (hr : isR r = true) (hs : isR s = true) (h : enc r = enc s) : r = s := by rw [← val_enc r hr, ← val_enc s hs, h]
theorem enc_len (r : Int) (h : isR r = true) : ((enc r).length : Int) = if r ≥ 65536 then 4 else if r ≥ 2048 then 3 else if r ≥ 128 then 2 else 1 := by
  unfold enc
  rw [if_pos h]
  unfold enc0
  (repeat' split) <;> first | rfl | omega

/-- The language's own encoding of a number is the document's. -/
def encN (c : Nat) : ByteArray :=
  let b (n : Nat) : UInt8 := UInt8.ofNat n
  if c < 0x80 then ⟨#[b c]⟩
  else if c < 0x800 then ⟨#[b (0xC0 + c / 64), b (0x80 + c % 64)]⟩
  else if c < 0x10000 then ⟨#[b (0xE0 + c / 4096), b (0x80 + c / 64 % 64), b (0x80 + c % 64)]⟩
  else ⟨#[b (0xF0 + c / 262144), b (0x80 + c / 4096 % 64), b (0x80 + c / 64 % 64), b (0x80 + c % 64)]⟩
theorem encode_N (r : Int) : Utf8.encode r = encN (if Utf8.valid r then r.toNat else Utf8.runeError) := rfl
theorem tn1 (c : Nat) : ((192 + (c : Int) / 64)).toNat = 0xC0 + c / 64 := by omega
theorem tn2 (c : Nat) : ((128 + (c : Int) % 64)).toNat = 0x80 + c % 64 := by omega
theorem tn3 (c : Nat) : ((224 + (c : Int) / 4096)).toNat = 0xE0 + c / 4096 := by omega
theorem tn4 (c : Nat) : ((128 + (c : Int) / 64 % 64)).toNat = 0x80 + c / 64 % 64 := by omega
theorem tn5 (c : Nat) : ((240 + (c : Int) / 262144)).toNat = 0xF0 + c / 262144 := by omega
theorem tn6 (c : Nat) : ((128 + (c : Int) / 4096 % 64)).toNat = 0x80 + c / 4096 % 64 := by omega
theorem encN_eq (c : Nat) : (encN c).data.toList = (enc0 (c : Int)).map fun n => UInt8.ofNat n.toNat := by
  unfold encN enc0
  by_cases h1 : c < 128
  · have g1 : (c : Int) < 128 := by omega
    rw [if_pos h1, if_pos g1]; simp
  · have g1 : ¬ (c : Int) < 128 := by omega
    rw [if_neg h1, if_neg g1]
    by_cases h2 : c < 2048
    · have g2 : (c : Int) < 2048 := by omega
      rw [if_pos h2, if_pos g2]
      simp only [List.map_cons, List.map_nil, tn1, tn2]
    · have g2 : ¬ (c : Int) < 2048 := by omega
      rw [if_neg h2, if_neg g2]
      by_cases h3 : c < 65536
      · have g3 : (c : Int) < 65536 := by omega
        rw [if_pos h3, if_pos g3]
        simp only [List.map_cons, List.map_nil, tn2, tn3, tn4]
      · have g3 : ¬ (c : Int) < 65536 := by omega
        rw [if_neg h3, if_neg g3]
        simp only [List.map_cons, List.map_nil, tn2, tn4, tn5, tn6]
theorem encode_eq (r : Int) : (Utf8.encode r).toList = (strOfNums (enc r)).toList := by
  rw [str_toList, ByteArray.toList_eq, encode_N, encN_eq]
  have hv : Utf8.valid r = isR r := by unfold Utf8.valid isR; rw [Bool.eq_iff_iff]; simp; omega
  rw [hv]
  unfold enc
  by_cases h : isR r = true
  · rw [if_pos h, if_pos h]
    rw [isR_iff] at h
    rw [Int.toNat_of_nonneg (by omega)]
  · rw [if_neg h, if_neg h]
    rfl
end Go.Proofs.YtiolhoaoepgmcaaDoor.Math
