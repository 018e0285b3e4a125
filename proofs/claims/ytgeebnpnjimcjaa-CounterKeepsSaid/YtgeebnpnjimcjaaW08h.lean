/- The law CounterKeeps at every input. No condition. -/
import Derived.Test.YtgeebnpnjimcjaaW08g
set_option linter.unusedSimpArgs false
set_option linter.unusedVariables false
set_option linter.unusedSectionVars false
namespace Go.Proofs.Ytgeebnpnjimcjaa
open Go.RowKit

theorem S08.next_up {limit : Int} {P N : Int} (h : 0 ≤ P ∧ P ≤ 65535 ∧ 0 ≤ N) : P ≤ (S08.next limit (P, N) true).1 := by
  have := (S08.step_between (p := P) (n := N) (bit := 1) h.1 h.2.1 h.2.2 (.inr rfl)).1 rfl
  exact this.1
theorem S08.next_down {limit : Int} {P N : Int} (h : 0 ≤ P ∧ P ≤ 65535 ∧ 0 ≤ N) : (S08.next limit (P, N) false).1 ≤ P := by
  have := (S08.step_between (p := P) (n := N) (bit := 0) h.1 h.2.1 h.2.2 (.inl rfl)).2 rfl
  exact this.2

set_option maxHeartbeats 1000000 in
theorem counterKeeps_any (p l : Int) (a : Option Addr) (bs : List Bool) (cap : Nat) (w : World) (hp : 0 ≤ p) (hp' : p ≤ 65535) (hl : 0 ≤ l) (hl' : l ≤ 65535) (hlen : bs.length ≤ 9223372036854775807)
    (hrd : Rd w a (Bools bs)) :
    Calls Try.prog 5 #[.int .u16 p, .slice a bs.length cap, .int .u16 l] w fun e w' => e = .returned (.bool true) ∧ Below w.heap.size w w' := by
  have hnew : S08.newV p = .tuple #[.agg #[.int .i64 p, .int .i64 0], .int .i64 0] := by unfold S08.newV; rw [if_neg (by omega)]
  have Hnew := Lib.hid hnew
  clear hnew
  by_cases hlong : 300 < bs.length
  · have hl3 : (300 : Int) < (bs.length : Int) := by omega
    go_enter Try.func5, Try.ntmps5
    go_wp2_with fail
    refine (awake08_any _).mono ?_
    rintro e w1 ⟨rfl, hb1⟩
    have hB1 : Below w.heap.size w w1 := below_trans (by go_grown) hb1
    have z1 : w.heap.size ≤ w1.heap.size := hB1.size
    go_wp2
    go_returns
    exact ⟨rfl, hB1⟩
  · have hl3 : ¬ (300 : Int) < (bs.length : Int) := by omega
    go_enter Try.func5, Try.ntmps5
    go_wp2_with fail
    refine (new08_any _ _).mono ?_
    rw [Hnew.out]
    rintro e w1 ⟨rfl, hb1⟩
    have hB1 : Below w.heap.size w w1 := below_trans (by go_grown) hb1
    have z1 : w.heap.size ≤ w1.heap.size := hB1.size
    go_wp2_with fail
    obtain ⟨n, hn⟩ : ∃ n, n = 1 + l % 1023 := ⟨_, rfl⟩
    rw [← hn]
    have n1 : 1 ≤ n := by omega
    have n2 : n ≤ 1023 := by omega
    clear hn
    have b8 : Blk (w1.alloc (Obj.cells #[.int .i64 p, .int .i64 0] 23)) w1.heap.size [.int .i64 p, .int .i64 0] 23 := Blk.new w1 _ _
    have B8 := Lib.hid b8
    clear b8
    go_loopw [10] (fun i wr => ∃ k : Nat, k ≤ bs.length ∧ i = .int .i64 k ∧ Blk wr w1.heap.size [.int .i64 (S08.run p n (bs.take k)).1, .int .i64 (S08.run p n (bs.take k)).2] 23 ∧ Below w.heap.size w wr)
      (fun i _ => bs.length - (intOf i).toNat)
    case atStart => exact ⟨0, by omega, rfl, B8.out, by go_grown⟩
    case round =>
      rename_i wr _
      obtain ⟨k, hk, rfl, b8, hB⟩ := hrel
      have hok := S08.run_ok hp hp' n1 (bs.take k)
      have zr : w.heap.size ≤ wr.heap.size := hB.size
      have s8 := b8.lt
      by_cases hlt : k < bs.length
      · have hrun := S08.run_take (p := p) (limit := n) hlt
        generalize hrk : S08.run p n (bs.take k) = c at *
        obtain ⟨P, N⟩ := c
        simp only at hok b8 hrun
        have c80 : wr.cell? ⟨w1.heap.size, 0, none⟩ = some (.int .i64 P) := b8.cell 0
        have c81 : wr.cell? ⟨w1.heap.size, 1, none⟩ = some (.int .i64 N) := b8.cell 1
        have B8 := Lib.hid b8
        have Hrun := Lib.hid hrun
        clear hrk b8 hrun
        have hrdr := hrd.step hB
        obtain ⟨b, o, rfl, hcell⟩ := hrdr.at (i := k) (by simpa [Bools] using hlt)
        have hx : wr.cell? ⟨b, o + k, none⟩ = some (.bool bs[k]) := by have := hcell k (by simpa [Bools] using hlt); simpa [Bools] using this
        clear hcell hrdr
        have hup := S08.updateV_bit (p := P) (n := N) (limit := n) bs[k] ⟨n1, n2⟩ hok
        cases hbk : bs[k]
        · skip
          rw [hbk] at hx hup
          simp only [Bool.false_eq_true, if_false, if_true] at hup
          have hbk' := Lib.hid hbk
          have hd := S08.next_down (limit := n) ⟨hok.1, hok.2.1, hok.2.2.1⟩
          have hnok := S08.next_ok (c := (P, N)) (b := false) n1 hok
          have hck := S08.check_zero ⟨n1, n2⟩ hnok
          have hmin : (S08.next n (P, N) false).2 = min (N + 1) n := rfl
          generalize hP' : (S08.next n (P, N) false).1 = P' at *
          generalize hN' : (S08.next n (P, N) false).2 = N' at *
          have Hup := Lib.hid hup
          have Hck := Lib.hid hck
          have HP' := Lib.hid hP'
          have HN' := Lib.hid hN'
          clear hup hck hbk hP' hN'
          have hN2 : (N' != min (N + 1) n) = false := by rw [hmin]; simp
          have Hmin := Lib.hid hmin
          clear hmin
          go_wp2_with fail
          refine (update08_any _ _ _ _ _).mono ?_
          rw [Hup.out]
          rintro e w3 ⟨rfl, hb3⟩
          have hB3 := below_trans hB hb3
          have z3 : w.heap.size ≤ w3.heap.size := hB3.size
          have b83 := Lib.hid (B8.out.step hb3)
          have s83 := b83.out.lt
          have hx3 : w3.cell? ⟨b, o + k, none⟩ = some (.bool false) := by rw [hb3.cell (block_lt_of_cell hx)]; exact hx
          have d80 := b83.out.cell 0
          have d81 := b83.out.cell 1
          simp only [List.getElem?_cons_zero, List.getElem?_cons_succ] at d80 d81
          go_wp2_with fail
          refine (check08_any _ _ _ _).mono ?_
          rw [Hck.out]
          rintro e w4 ⟨rfl, hb4⟩
          have hB4 : Below w.heap.size w w4 := below_trans (by go_grown) hb4
          have z4 : w.heap.size ≤ w4.heap.size := hB4.size
          have s34 : w3.heap.size < w4.heap.size := by have := hb4.size; simp at this; omega
          have b84 := Lib.hid ((b83.out.alloc _).step hb4)
          have b94 := Lib.hid ((Blk.new w3 [.int .i64 P', .int .i64 N'] 23).step hb4)
          have hx4 : w4.cell? ⟨b, o + k, none⟩ = some (.bool false) := by
            rw [hb4.cell (by have := block_lt_of_cell hx3; simp at this ⊢; omega)]
            have := block_lt_of_cell hx3
            go_simp
          have e80 := b84.out.cell 0
          have e81 := b84.out.cell 1
          have e90 := b94.out.cell 0
          have e91 := b94.out.cell 1
          have f80 := b84.out.free 0
          have f81 := b84.out.free 1
          simp only [List.getElem?_cons_zero, List.getElem?_cons_succ] at e80 e81 e90 e91
          have hne : ¬ w1.heap.size = w3.heap.size := by omega
          rcases Int.le_total (N + 1) n with hm | hm
          all_goals
            have hm' := hm
            go_wp2
          all_goals first
            | (exfalso; have := Hmin.out; omega)
            | skip
          all_goals go_roundw
          all_goals first
            | (case rel => exact ⟨k + 1, by omega, by go_num, by rw [Hrun.out, hbk'.out, HP'.out, HN'.out]; first | (rw [show N' = N + 1 by omega]; exact (b84.out.set 0 _).set 1 _) | (rw [show N' = n by omega]; exact (b84.out.set 0 _).set 1 _), by go_grown⟩)
            | (case measure => simp [intOf]; omega)
        · skip
          rw [hbk] at hx hup
          simp only [Bool.false_eq_true, if_false, if_true] at hup
          have hbk' := Lib.hid hbk
          have hd := S08.next_up (limit := n) ⟨hok.1, hok.2.1, hok.2.2.1⟩
          have hnok := S08.next_ok (c := (P, N)) (b := true) n1 hok
          have hck := S08.check_zero ⟨n1, n2⟩ hnok
          have hmin : (S08.next n (P, N) true).2 = min (N + 1) n := rfl
          generalize hP' : (S08.next n (P, N) true).1 = P' at *
          generalize hN' : (S08.next n (P, N) true).2 = N' at *
          have Hup := Lib.hid hup
          have Hck := Lib.hid hck
          have HP' := Lib.hid hP'
          have HN' := Lib.hid hN'
          clear hup hck hbk hP' hN'
          have hN2 : (N' != min (N + 1) n) = false := by rw [hmin]; simp
          have Hmin := Lib.hid hmin
          clear hmin
          go_wp2_with fail
          refine (update08_any _ _ _ _ _).mono ?_
          rw [Hup.out]
          rintro e w3 ⟨rfl, hb3⟩
          have hB3 := below_trans hB hb3
          have z3 : w.heap.size ≤ w3.heap.size := hB3.size
          have b83 := Lib.hid (B8.out.step hb3)
          have s83 := b83.out.lt
          have hx3 : w3.cell? ⟨b, o + k, none⟩ = some (.bool true) := by rw [hb3.cell (block_lt_of_cell hx)]; exact hx
          have d80 := b83.out.cell 0
          have d81 := b83.out.cell 1
          simp only [List.getElem?_cons_zero, List.getElem?_cons_succ] at d80 d81
          go_wp2_with fail
          refine (check08_any _ _ _ _).mono ?_
          rw [Hck.out]
          rintro e w4 ⟨rfl, hb4⟩
          have hB4 : Below w.heap.size w w4 := below_trans (by go_grown) hb4
          have z4 : w.heap.size ≤ w4.heap.size := hB4.size
          have s34 : w3.heap.size < w4.heap.size := by have := hb4.size; simp at this; omega
          have b84 := Lib.hid ((b83.out.alloc _).step hb4)
          have b94 := Lib.hid ((Blk.new w3 [.int .i64 P', .int .i64 N'] 23).step hb4)
          have hx4 : w4.cell? ⟨b, o + k, none⟩ = some (.bool true) := by
            rw [hb4.cell (by have := block_lt_of_cell hx3; simp at this ⊢; omega)]
            have := block_lt_of_cell hx3
            go_simp
          have e80 := b84.out.cell 0
          have e81 := b84.out.cell 1
          have e90 := b94.out.cell 0
          have e91 := b94.out.cell 1
          have f80 := b84.out.free 0
          have f81 := b84.out.free 1
          simp only [List.getElem?_cons_zero, List.getElem?_cons_succ] at e80 e81 e90 e91
          have hne : ¬ w1.heap.size = w3.heap.size := by omega
          rcases Int.le_total (N + 1) n with hm | hm
          all_goals
            have hm' := hm
            go_wp2
          all_goals first
            | (exfalso; have := Hmin.out; omega)
            | skip
          all_goals go_roundw
          all_goals first
            | (case rel => exact ⟨k + 1, by omega, by go_num, by rw [Hrun.out, hbk'.out, HP'.out, HN'.out]; first | (rw [show N' = N + 1 by omega]; exact (b84.out.set 0 _).set 1 _) | (rw [show N' = n by omega]; exact (b84.out.set 0 _).set 1 _), by go_grown⟩)
            | (case measure => simp [intOf]; omega)
      · obtain rfl : k = bs.length := by omega
        clear b8
        go_wp2_with fail
        refine (awake08_any _).mono ?_
        rintro e w5 ⟨rfl, hb5⟩
        have hB5 : Below w.heap.size w w5 := below_trans hB hb5
        go_wp2
        go_returns
        exact ⟨rfl, hB5⟩

end Go.Proofs.Ytgeebnpnjimcjaa
