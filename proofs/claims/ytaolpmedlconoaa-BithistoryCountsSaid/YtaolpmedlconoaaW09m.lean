/- The laws BithistoryNext and BithistoryCounts at every input. No condition. -/
import Derived.Test.YtaolpmedlconoaaW09l
set_option linter.unusedSimpArgs false
set_option linter.unusedVariables false
set_option linter.unusedSectionVars false
namespace Go.Proofs.Ytaolpmedlconoaa
open Go.RowKit

set_option maxHeartbeats 1000000 in
theorem bithistoryNext_any (s b : Int) (w : World) :
    Calls Try.prog 3 #[.int .i64 s, .int .i64 b] w fun e w' => e = .returned (.bool true) ∧ Below w.heap.size w w' := by
  have H1 := Lib.hid fun W => next09_any s b W
  have H2 := Lib.hid fun W => refNext09_any s b W
  generalize S09.nextS s b = x at *
  generalize S09.nextE s b = y at *
  go_enter Try.func3, Try.ntmps3
  go_wp2_with fail
  refine (H1.out _).mono ?_
  rintro e w1 ⟨rfl, hb1⟩
  have hB1 : Below w.heap.size w w1 := below_trans (by go_grown) hb1
  have z1 : w.heap.size ≤ w1.heap.size := hB1.size
  go_wp2_with fail
  refine (H2.out _).mono ?_
  rintro e w2 ⟨rfl, hb2⟩
  have hB2 : Below w.heap.size w w2 := below_trans (by go_grown) hb2
  have z2 : w.heap.size ≤ w2.heap.size := hB2.size
  go_wp2_with fail
  refine (awake09_any _).mono ?_
  rintro e w3 ⟨rfl, hb3⟩
  have hB3 : Below w.heap.size w w3 := below_trans (by go_grown) hb3
  have z3 : w.heap.size ≤ w3.heap.size := hB3.size
  go_wp2
  go_returns
  exact ⟨rfl, hB3⟩

set_option maxHeartbeats 1000000 in
theorem bithistoryCounts_any (s : Int) (w : World) :
    Calls Try.prog 7 #[.int .i64 s] w fun e w' => e = .returned (.bool true) ∧ Below w.heap.size w w' := by
  have H1 := Lib.hid fun W => counts09_any s W
  have H2 := Lib.hid fun W => refCounts09_any s W
  have H3 := Lib.hid fun W => chance09_any s W
  have H4 := Lib.hid fun W => refChance09_any s W
  have H5 := Lib.hid fun W => priority09_any s W
  have H6 := Lib.hid fun W => refPriority09_any s W
  generalize (if S09.found s then S09.chance (S09.hz s) (S09.ho s) else 0) = c at *
  generalize (if S09.found s then S09.hz s + S09.ho s else -1) = p at *
  generalize S09.hz s = z at *
  generalize S09.ho s = o at *
  generalize S09.hl s = l at *
  generalize S09.err s = y at *
  go_enter Try.func7, Try.ntmps7
  go_wp2_with fail
  refine (H1.out _).mono ?_
  rintro e w1 ⟨rfl, hb1⟩
  have hB1 : Below w.heap.size w w1 := below_trans (by go_grown) hb1
  have z1 : w.heap.size ≤ w1.heap.size := hB1.size
  go_wp2_with fail
  refine (H2.out _).mono ?_
  rintro e w2 ⟨rfl, hb2⟩
  have hB2 : Below w.heap.size w w2 := below_trans (by go_grown) hb2
  have z2 : w.heap.size ≤ w2.heap.size := hB2.size
  go_wp2_with fail
  refine (H3.out _).mono ?_
  rintro e w3 ⟨rfl, hb3⟩
  have hB3 : Below w.heap.size w w3 := below_trans (by go_grown) hb3
  have z3 : w.heap.size ≤ w3.heap.size := hB3.size
  go_wp2_with fail
  refine (H4.out _).mono ?_
  rintro e w4 ⟨rfl, hb4⟩
  have hB4 : Below w.heap.size w w4 := below_trans (by go_grown) hb4
  have z4 : w.heap.size ≤ w4.heap.size := hB4.size
  go_wp2_with fail
  refine (H5.out _).mono ?_
  rintro e w5 ⟨rfl, hb5⟩
  have hB5 : Below w.heap.size w w5 := below_trans (by go_grown) hb5
  have z5 : w.heap.size ≤ w5.heap.size := hB5.size
  go_wp2_with fail
  refine (H6.out _).mono ?_
  rintro e w6 ⟨rfl, hb6⟩
  have hB6 : Below w.heap.size w w6 := below_trans (by go_grown) hb6
  have z6 : w.heap.size ≤ w6.heap.size := hB6.size
  go_wp2_with fail
  refine (count09_any _).mono ?_
  rintro e w7 ⟨rfl, hb7⟩
  have hB7 : Below w.heap.size w w7 := below_trans (by go_grown) hb7
  have z7 : w.heap.size ≤ w7.heap.size := hB7.size
  go_wp2_with fail
  refine (refCount09_any _).mono ?_
  rintro e w8 ⟨rfl, hb8⟩
  have hB8 : Below w.heap.size w w8 := below_trans (by go_grown) hb8
  have z8 : w.heap.size ≤ w8.heap.size := hB8.size
  go_wp2_with fail
  refine (awake09_any _).mono ?_
  rintro e w9 ⟨rfl, hb9⟩
  have hB9 : Below w.heap.size w w9 := below_trans (by go_grown) hb9
  have z9 : w.heap.size ≤ w9.heap.size := hB9.size
  go_wp2
  go_returns
  exact ⟨rfl, hB9⟩
end Go.Proofs.Ytaolpmedlconoaa
