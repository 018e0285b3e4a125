/- The law BithistoryFollows at every input. No condition. -/
import Derived.Test.YtaolpmedlconoaaW09o
set_option linter.unusedSimpArgs false
set_option linter.unusedVariables false
set_option linter.unusedSectionVars false
namespace Go.Proofs.Ytaolpmedlconoaa
open Go.RowKit

theorem S09.walk_replicate (bit : Bool) (k : Nat) (s : Int) : S09.walk false [bit] (S09.walk false (List.replicate k bit) s) = S09.walk false (List.replicate (k + 1) bit) s := by
  rw [List.replicate_succ', S09.walk_append]; rfl

set_option maxHeartbeats 4000000 in
theorem bithistoryFollows_any (a : Option Addr) (bs : List Bool) (cap : Nat) (eq : Int) (bit : Bool) (w : World) (hlen : bs.length ≤ 9223372036854775807) (hrd : Rd w a (Bools bs)) (he0 : 0 ≤ eq) (he1 : eq ≤ 255) :
    Calls Try.prog 4 #[.slice a bs.length cap, .int .u8 eq, .bool bit] w fun e w' => e = .returned (.bool true) ∧ Below w.heap.size w w' := by
  by_cases hlong : 200 < bs.length
  · have hl3 : (200 : Int) < (bs.length : Int) := by omega
    go_enter Try.func4, Try.ntmps4
    go_wp2_with fail
    refine (awake09_any _).mono ?_
    rintro e w1 ⟨rfl, hb1⟩
    have hB1 : Below w.heap.size w w1 := below_trans (by go_grown) hb1
    have z1 : w.heap.size ≤ w1.heap.size := hB1.size
    go_wp2
    go_returns
    exact ⟨rfl, hB1⟩
  · have hl3 : ¬ (200 : Int) < (bs.length : Int) := by omega
    have H1 := Lib.hid (after09_any 0 a bs cap false w S09.found_zero hlen hrd)
    have hf := S09.walk_found false bs 0 S09.found_zero
    have hb0 := S09.h_bounds (S09.walk false bs 0)
    have HC1 := Lib.hid fun W => counts09_any (S09.walk false bs 0) W
    rw [S09.err_zero hf] at HC1
    have htot := S09.walk_total bs 0 S09.found_zero
    rw [S09.zero_hist.1, S09.zero_hist.2.1] at htot
    have htot : ¬ (bs.length : Int) < S09.hz (S09.walk false bs 0) + S09.ho (S09.walk false bs 0) := by omega
    have hlast : ¬ (0 : Int) < bs.length ∨ ((0 : Int) < bs.length ∧ ∃ (x : Bool) (g o : Nat), a = some ⟨g, o, none⟩ ∧ (∀ W, Below w.heap.size w W → W.cell? ⟨g, o + (bs.length - 1), none⟩ = some (.bool x)) ∧ S09.hl (S09.walk false bs 0) = S09.bit x false) := by
      rcases Nat.eq_zero_or_pos bs.length with h | h
      · left; omega
      · right
        refine ⟨by omega, ?_⟩
        obtain ⟨init, x, rfl⟩ := long_slice (bs := bs) (fun e => by rw [e] at h; simp at h)
        obtain ⟨g, o, rfl, hcs⟩ := hrd.at (i := 0) (by simp [Bools])
        refine ⟨x, g, o, rfl, fun W hb => ?_, S09.walk_last false init x 0 S09.found_zero⟩
        have h1 := hcs ((init ++ [x]).length - 1) (by simp [Bools])
        have h2 : w.cell? ⟨g, o + ((init ++ [x]).length - 1), none⟩ = some (.bool x) := by rw [h1]; simp [Bools]
        rw [hb.cell (block_lt_of_cell h2)]
        exact h2
    obtain ⟨K, hK⟩ : ∃ K : Nat, (K : Int) = eq % 31 := ⟨(eq % 31).toNat, by omega⟩
    have hK31 : K < 31 := by omega
    have hKe : eq % 31 ≤ 30 := by omega
    have HK := Lib.hid hK
    clear hf hrd hK
    generalize S09.walk false bs 0 = s at *
    generalize S09.hz s = z at *
    generalize S09.ho s = o at *
    generalize S09.hl s = l at *
    obtain ⟨u1, u2, u3, u4, u5, u6⟩ := hb0
    rcases hlast with hl0 | ⟨hl0, x, g, q, rfl, hcell, hlx⟩
    · go_enter Try.func4, Try.ntmps4
      go_wp2_with fail
      refine (H1.out).mono ?_
      rintro e w1 ⟨rfl, hb1⟩
      have hB1 : Below w.heap.size w w1 := below_trans (by go_grown) hb1
      have z1 : w.heap.size ≤ w1.heap.size := hB1.size
      go_wp2_with fail
      refine (HC1.out _).mono ?_
      rintro e w2 ⟨rfl, hb2⟩
      have hB2 : Below w.heap.size w w2 := below_trans (by go_grown) hb2
      have z2 : w.heap.size ≤ w2.heap.size := hB2.size
      go_wp2
      go_loopw [8, 14, 65] (fun ok t i wr => ∃ k : Nat, k ≤ K ∧ ok = .bool true ∧ i = .int .i64 k ∧ t = .int .i64 (S09.walk false (List.replicate k bit) 0) ∧ Below w.heap.size w wr) (fun _ _ i _ => 31 - (intOf i).toNat)
      case atStart => exact ⟨0, by omega, rfl, rfl, rfl, hB2⟩
      case round =>
        obtain ⟨k, hk, rfl, rfl, rfl, hB⟩ := hrel
        have zr : w.heap.size ≤ wr.heap.size := hB.size
        by_cases hlt : k < K
        · have hlt2 : (k : Int) < eq % 31 := by have := HK.out; omega
          have hff := S09.walk_found false (List.replicate k bit) 0 S09.found_zero
          have H2 := Lib.hid (after09_any (S09.walk false (List.replicate k bit) 0) (some ⟨wr.heap.size, 0, none⟩) [bit] 1 false (wr.alloc (Obj.cells #[.bool bit] 4)) hff (by simp) (fun _ => ⟨_, 0, rfl, (Blk.new wr [.bool bit] 4).cells⟩))
          rw [S09.walk_replicate] at H2
          clear hff
          go_wp2_with fail
          refine H2.out.mono ?_
          rintro e w3 ⟨rfl, hb3⟩
          have hB3 : Below w.heap.size w w3 := below_trans (by go_grown) hb3
          go_wp2
          go_roundw
          case rel => exact ⟨k + 1, by omega, rfl, by go_num, rfl, hB3⟩
          case measure => simp [intOf]; omega
        · obtain rfl : k = K := by omega
          have hlt2 : ¬ (k : Int) < eq % 31 := by have := HK.out; omega
          have hff := S09.walk_found false (List.replicate k bit) 0 S09.found_zero
          have heq := S09.equal_bit hK31
          have HC3 := Lib.hid fun W => counts09_any (S09.walk false (List.replicate k bit) 0) W
          rw [S09.err_zero hff] at HC3
          cases bit
          · rw [heq.1, heq.2.1, HK.out] at HC3
            clear hff heq
            go_wp2_with fail
            refine (HC3.out _).mono ?_
            rintro e w3 ⟨rfl, hb3⟩
            have hB3 : Below w.heap.size w w3 := below_trans hB hb3
            go_wp2_with fail
            refine (awake09_any _).mono ?_
            rintro e w4 ⟨rfl, hb4⟩
            have hB4 : Below w.heap.size w w4 := below_trans hB3 hb4
            go_wp2
            go_returns
            exact ⟨rfl, hB4⟩
          · rw [heq.2.2.1, heq.2.2.2, HK.out] at HC3
            clear hff heq
            go_wp2_with fail
            refine (HC3.out _).mono ?_
            rintro e w3 ⟨rfl, hb3⟩
            have hB3 : Below w.heap.size w w3 := below_trans hB hb3
            go_wp2_with fail
            refine (awake09_any _).mono ?_
            rintro e w4 ⟨rfl, hb4⟩
            have hB4 : Below w.heap.size w w4 := below_trans hB3 hb4
            go_wp2
            go_returns
            exact ⟨rfl, hB4⟩
    · have Hcell := Lib.hid hcell
      clear hcell
      cases x
      all_goals
        first | obtain rfl : l = 0 := hlx | obtain rfl : l = 1 := hlx
        go_enter Try.func4, Try.ntmps4
        go_wp2_with fail
        refine (H1.out).mono ?_
        rintro e w1 ⟨rfl, hb1⟩
        have hB1 : Below w.heap.size w w1 := below_trans (by go_grown) hb1
        have z1 : w.heap.size ≤ w1.heap.size := hB1.size
        go_wp2_with fail
        refine (HC1.out _).mono ?_
        rintro e w2 ⟨rfl, hb2⟩
        have hB2 : Below w.heap.size w w2 := below_trans (by go_grown) hb2
        have z2 : w.heap.size ≤ w2.heap.size := hB2.size
        have hcc := Hcell.out w2 hB2
        go_wp2
        go_loopw [8, 14, 65] (fun ok t i wr => ∃ k : Nat, k ≤ K ∧ ok = .bool true ∧ i = .int .i64 k ∧ t = .int .i64 (S09.walk false (List.replicate k bit) 0) ∧ Below w.heap.size w wr) (fun _ _ i _ => 31 - (intOf i).toNat)
        case atStart => exact ⟨0, by omega, rfl, rfl, rfl, hB2⟩
        case round =>
          obtain ⟨k, hk, rfl, rfl, rfl, hB⟩ := hrel
          have zr : w.heap.size ≤ wr.heap.size := hB.size
          by_cases hlt : k < K
          · have hlt2 : (k : Int) < eq % 31 := by have := HK.out; omega
            have hff := S09.walk_found false (List.replicate k bit) 0 S09.found_zero
            have H2 := Lib.hid (after09_any (S09.walk false (List.replicate k bit) 0) (some ⟨wr.heap.size, 0, none⟩) [bit] 1 false (wr.alloc (Obj.cells #[.bool bit] 4)) hff (by simp) (fun _ => ⟨_, 0, rfl, (Blk.new wr [.bool bit] 4).cells⟩))
            rw [S09.walk_replicate] at H2
            clear hff
            go_wp2_with fail
            refine H2.out.mono ?_
            rintro e w3 ⟨rfl, hb3⟩
            have hB3 : Below w.heap.size w w3 := below_trans (by go_grown) hb3
            go_wp2
            go_roundw
            case rel => exact ⟨k + 1, by omega, rfl, by go_num, rfl, hB3⟩
            case measure => simp [intOf]; omega
          · obtain rfl : k = K := by omega
            have hlt2 : ¬ (k : Int) < eq % 31 := by have := HK.out; omega
            have hff := S09.walk_found false (List.replicate k bit) 0 S09.found_zero
            have heq := S09.equal_bit hK31
            have HC3 := Lib.hid fun W => counts09_any (S09.walk false (List.replicate k bit) 0) W
            rw [S09.err_zero hff] at HC3
            cases bit
            · rw [heq.1, heq.2.1, HK.out] at HC3
              clear hff heq
              go_wp2_with fail
              refine (HC3.out _).mono ?_
              rintro e w3 ⟨rfl, hb3⟩
              have hB3 : Below w.heap.size w w3 := below_trans hB hb3
              go_wp2_with fail
              refine (awake09_any _).mono ?_
              rintro e w4 ⟨rfl, hb4⟩
              have hB4 : Below w.heap.size w w4 := below_trans hB3 hb4
              go_wp2
              go_returns
              exact ⟨rfl, hB4⟩
            · rw [heq.2.2.1, heq.2.2.2, HK.out] at HC3
              clear hff heq
              go_wp2_with fail
              refine (HC3.out _).mono ?_
              rintro e w3 ⟨rfl, hb3⟩
              have hB3 : Below w.heap.size w w3 := below_trans hB hb3
              go_wp2_with fail
              refine (awake09_any _).mono ?_
              rintro e w4 ⟨rfl, hb4⟩
              have hB4 : Below w.heap.size w w4 := below_trans hB3 hb4
              go_wp2
              go_returns
              exact ⟨rfl, hB4⟩
end Go.Proofs.Ytaolpmedlconoaa
