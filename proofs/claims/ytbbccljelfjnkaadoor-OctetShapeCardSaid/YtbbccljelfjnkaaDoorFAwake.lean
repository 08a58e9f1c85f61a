import Derived.Test.YtbbccljelfjnkaaDoorPr2
import Derived.Test.YtbbccljelfjnkaaDoorFValue
import Derived.Lib.SlBytesConst
namespace Go.Proofs.YtbbccljelfjnkaaDoor.Pr
open Go.RowKit Go.Proofs.YtbbccljelfjnkaaDoorW.PrintWords Go.Proofs.YtbbccljelfjnkaaDoorW.PrintLast Go.Proofs.YtbbccljelfjnkaaDoorW.PrintMore
set_option linter.unusedVariables false
set_option linter.unusedSimpArgs false

/-- A row that was just laid reads as its list. -/
theorem C_lit (w : World) (e : TypeId) (xs : List Int) (fr : Nat × Nat) (h : xs.length ≤ 9223372036854775807) :
    Kd.C (Kd.int .u8) (w.alloc (.cells (xs.map (Value.int .u8)).toArray e fr)) (some ⟨w.heap.size, 0, none⟩) xs.length xs := by
  refine Kd.C_of_reads (d := (0 : Int)) (h1 := fun _ => rfl) ⟨rfl, h, fun _ => ⟨_, rfl, fun j hj => ?_⟩⟩
  rw [add_plain, cell_of_row _ _ j _ e fr (heap_alloc_new w _)]
  simp [List.getElem?_eq_getElem hj, List.getD_eq_getElem?_getD]

def galleylaw01_awake.f : Option Bool := some true
set_option maxHeartbeats 8000000 in
set_option maxRecDepth 100000 in
theorem galleylaw01_awake.calls (r : Bool) (w : World) (hG : Glob.Globs w) (h : galleylaw01_awake.f = some r) :
    Calls Tryd.prog 10 #[] w fun e w' => e = .returned (.bool r) ∧ Below w.heap.size w w' := by
  obtain rfl : true = r := Option.some.inj h
  clear h
  have HG := Lib.hid hG
  clear hG
  have C1 : Hid (octet_Class.f 130 = some 2) := Lib.hid (by decide)
  have C2 : Hid (octet_Need.f 226 = some 3) := Lib.hid (by decide)
  have C3 : Hid (octet_Whole.f 9 [226, 130, 172] = some true) := Lib.hid (by decide +kernel)
  have C4 : Hid (octet_Value.f 9 [226, 130, 172] = some 8364) := Lib.hid (by decide +kernel)
  have C5 : Hid (octet_Bytes.f 9 8364 = some [226, 130, 172]) := Lib.hid (by decide +kernel)
  have kc := fun (w : World) (C : Array Value) (n c : Nat) => Lib.run_convert_bytes_const (P := Tryd.prog) w 27 5 C n c Tryd.underlying27 Tryd.underlying5
  go_enter Tryd.func10, Tryd.ntmps10
  go_wp2_with (first | (go_at_call 11; refine (octet_Class.calls 130 2 _ HG.out C1.out).mono ?_; rintro e w1 ⟨rfl, hb1⟩) | (go_at_call 13; refine (octet_Need.calls 226 3 _ (Glob.Globs_below HG.out hb1) C2.out).mono ?_; rintro e w2 ⟨rfl, hb2⟩))
  have g2 := Glob.Globs_below (Glob.Globs_below HG.out hb1) hb2
  refine (octet_Whole.calls 9 _ 3 [226, 130, 172] true _ (Glob.Globs_alloc g2 _) (C_lit w2 5 [226, 130, 172] (3, 4) (by decide)) (by decide) C3.out).mono ?_
  rintro e w3 ⟨rfl, hb3⟩
  have g3 := Glob.Globs_below (Glob.Globs_alloc g2 _) hb3
  have G3 := Lib.hid g3
  clear g2 g3
  go_wp2_with fail
  refine (octet_Value.calls 9 _ 3 [226, 130, 172] 8364 _ (Glob.Globs_alloc G3.out _) (C_lit w3 5 [226, 130, 172] (3, 4) (by decide)) (by decide) C4.out).mono ?_
  rintro e w4 ⟨rfl, hb4⟩
  go_wp2_with fail
  refine (octet_Bytes.calls 9 8364 [226, 130, 172] _ C5.out).mono ?_
  rintro e w5 ⟨v, rfl, ho, hb5⟩
  have hcv := own_string (P := Tryd.prog) Tryd.underlying27 Tryd.underlying5 Tryd.underlying9 (Kd.own_of_R ho)
  clear ho
  have hs : strOfNums [226, 130, 172] = ⟨#[226, 130, 172]⟩ := by decide +kernel
  rw [hs] at hcv
  clear hs
  have B1 : Below w.heap.size w w2 := below_step hb1 hb2
  have B2 : Below w.heap.size w w3 := below_step (B1.alloc B1.size _) hb3
  have B3 : Below w.heap.size w w4 := below_step (B2.alloc B2.size _) hb4
  have BB := Lib.hid (below_step B3 hb5)
  clear B1 B2 B3
  go_wp2_with fail
  go_ret
  exact ⟨rfl, BB.out⟩
end Go.Proofs.YtbbccljelfjnkaaDoor.Pr
