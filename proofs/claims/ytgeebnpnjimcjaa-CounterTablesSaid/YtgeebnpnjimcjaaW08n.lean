/- The law CounterTables at every input. No condition. -/
import Derived.Test.YtgeebnpnjimcjaaW08m
import Derived.Test.YtgeebnpnjimcjaaW08f
set_option linter.unusedSimpArgs false
set_option linter.unusedVariables false
set_option linter.unusedSectionVars false
namespace Go.Proofs.Ytgeebnpnjimcjaa
open Go.RowKit

theorem S08.tableLen_le (n : Int) : S08.tableLen n ≤ 65536 := by unfold S08.tableLen; split <;> omega

set_option maxHeartbeats 1000000 in
theorem table08_any (n : Int) (w : World) (hn : -9223372036854775808 ≤ n) (hn' : n ≤ 9223372036854775807) :
    Calls Try.prog 20 #[.int .i64 n] w fun e w' => ∃ a cap, e = .returned (.tuple #[.slice a (S08.tableLen n) cap, .int .i64 (S08.tableErr n)]) ∧ Rd w' a (S08.fresh (S08.tableLen n)) ∧ Below w.heap.size w w' := by
  by_cases h1 : n < 1
  · have hLen : S08.tableLen n = 0 := by unfold S08.tableLen; rw [if_pos (by omega)]
    have hErr : S08.tableErr n = 2 := by unfold S08.tableErr; rw [if_pos (by omega)]
    rw [hLen, hErr]
    go_enter  Try.func20, Try.ntmps20
    go_wp2
    go_returns
    first | exact ⟨none, 0, rfl, Rd.nil _ _, by go_grown⟩ | exact ⟨none, ⟨0, rfl⟩, Rd.nil _ _, by go_grown⟩
  by_cases h2 : 65536 < n
  · have hLen : S08.tableLen n = 0 := by unfold S08.tableLen; rw [if_pos (by omega)]
    have hErr : S08.tableErr n = 2 := by unfold S08.tableErr; rw [if_pos (by omega)]
    rw [hLen, hErr]
    go_enter  Try.func20, Try.ntmps20
    go_wp2
    go_returns
    first | exact ⟨none, 0, rfl, Rd.nil _ _, by go_grown⟩ | exact ⟨none, ⟨0, rfl⟩, Rd.nil _ _, by go_grown⟩
  obtain ⟨m, rfl⟩ : ∃ m : Nat, n = m := ⟨n.toNat, by omega⟩
  have hm : m ≤ 65536 := by omega
  have hLen : S08.tableLen (m : Int) = m := by simp only [S08.tableLen]; rw [if_neg (by omega)]; omega
  have hErr : S08.tableErr (m : Int) = 0 := by simp only [S08.tableErr]; rw [if_neg (by omega)]
  rw [hLen, hErr]
  go_enter Try.func20, Try.ntmps20
  go_wp2_with fail
  refine (repeat08_any m _ _ _ hm (Rd.new w [.int .i64 32768, .int .i64 0] 23)).mono ?_
  rintro e w1 ⟨b1, c1, rfl, hr1, hb1⟩
  have hB1 : Below w.heap.size w w1 := below_trans (by go_grown) hb1
  go_wp2_with fail
  go_returns
  exact ⟨_, _, rfl, hr1, hB1⟩

set_option maxHeartbeats 1000000 in
theorem counterTables_any (n : Int) (w : World) (hn : -9223372036854775808 ≤ n) (hn' : n ≤ 9223372036854775807) :
    Calls Try.prog 9 #[.int .i64 n] w fun e w' => e = .returned (.bool true) ∧ Below w.heap.size w w' := by
  by_cases hlong : 3000 < n ∧ n ≤ 65536
  · obtain ⟨h1, h2⟩ := hlong
    go_enter Try.func9, Try.ntmps9
    go_wp2_with fail
    refine (awake08_any _).mono ?_
    rintro e w1 ⟨rfl, hb1⟩
    have hB1 : Below w.heap.size w w1 := below_trans (by go_grown) hb1
    have z1 : w.heap.size ≤ w1.heap.size := hB1.size
    go_wp2
    go_returns
    exact ⟨rfl, hB1⟩
  · have ht1 : (decide (3000 < n) && decide (n ≤ 65536)) = false := by simp; omega
    have hL := S08.tableLen_le n
    have hT := Lib.hid fun W => table08_any n W hn hn'
    have hR := Lib.hid fun W => refTable08_any n W hn hn'
    generalize S08.tableLen n = L at *
    generalize S08.tableErr n = E at *
    by_cases h1 : 3000 < n
    · have h2 : ¬ n ≤ 65536 := by omega
      go_enter Try.func9, Try.ntmps9
      go_wp2_with fail
      refine (hT.out _).mono ?_
      rintro e w1 ⟨a1, c1, rfl, hr1, hb1⟩
      have hB1 : Below w.heap.size w w1 := below_trans (by go_grown) hb1
      go_wp2_with fail
      refine (hR.out _).mono ?_
      rintro e w2 ⟨a2, c2, rfl, ho2, hb2⟩
      have hB2 : Below w.heap.size w w2 := below_trans hB1 hb2
      have hr2 := Rd.of_owns ho2
      go_wp2_with fail
      refine (awake08_any _).mono ?_
      rintro e w3 ⟨rfl, hb3⟩
      have hB3 : Below w.heap.size w w3 := below_trans hB2 hb3
      go_wp2_with fail
      refine (sameAll08_fresh L a1 a2 c1 c2 _ hL ((hr1.step hb2).step hb3) (hr2.step hb3)).mono ?_
      rintro e w4 ⟨rfl, hb4⟩
      have hB4 : Below w.heap.size w w4 := below_trans hB3 hb4
      go_wp2
      go_returns
      exact ⟨rfl, hB4⟩
    · go_enter Try.func9, Try.ntmps9
      go_wp2_with fail
      refine (hT.out _).mono ?_
      rintro e w1 ⟨a1, c1, rfl, hr1, hb1⟩
      have hB1 : Below w.heap.size w w1 := below_trans (by go_grown) hb1
      go_wp2_with fail
      refine (hR.out _).mono ?_
      rintro e w2 ⟨a2, c2, rfl, ho2, hb2⟩
      have hB2 : Below w.heap.size w w2 := below_trans hB1 hb2
      have hr2 := Rd.of_owns ho2
      go_wp2_with fail
      refine (awake08_any _).mono ?_
      rintro e w3 ⟨rfl, hb3⟩
      have hB3 : Below w.heap.size w w3 := below_trans hB2 hb3
      go_wp2_with fail
      refine (sameAll08_fresh L a1 a2 c1 c2 _ hL ((hr1.step hb2).step hb3) (hr2.step hb3)).mono ?_
      rintro e w4 ⟨rfl, hb4⟩
      have hB4 : Below w.heap.size w w4 := below_trans hB3 hb4
      go_wp2
      go_returns
      exact ⟨rfl, hB4⟩
end Go.Proofs.Ytgeebnpnjimcjaa
