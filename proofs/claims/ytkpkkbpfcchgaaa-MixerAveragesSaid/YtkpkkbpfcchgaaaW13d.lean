/- The walk of Check (layer 13). No condition. -/
import Derived.Test.YtkpkkbpfcchgaaaW13c
set_option linter.unusedSimpArgs false
set_option linter.unusedVariables false
set_option linter.unusedSectionVars false
namespace Go.Proofs.Ytkpkkbpfcchgaaa
open Go.RowKit

set_option maxHeartbeats 1000000 in
theorem check13_any (n : Int) (L : List (List Int)) (V : Value) (w : World) (hV : MixIs n L V w) :
    Calls Try.prog 15 #[V] w fun e w' => e = .returned (.int .i64 (S13.check 16 n L)) ∧ Below w.heap.size w w' := by
  obtain ⟨R, a, cap, rfl, rfl, h1, h2, hrd, hok⟩ := hV
  have HB1 := Lib.hid fun W => between13_any n 1 16 W
  have HB2 := Lib.hid fun W => between13_any R.length 1 65536 W
  by_cases hn : 1 ≤ n ∧ n ≤ 16
  · rw [decide_eq_true hn.1, decide_eq_true hn.2] at HB1
    by_cases hl : (1 : Int) ≤ R.length ∧ (R.length : Int) ≤ 65536
    · rw [decide_eq_true hl.1, decide_eq_true hl.2] at HB2
      have hck : S13.check 16 n (R.map Row13.l) = S13.rows n (R.map Row13.l) := by
        unfold S13.check; rw [if_neg (by rw [List.length_map]; omega)]
      rw [hck]
      clear hck
      go_enter Try.func15, Try.ntmps15
      go_wp2_with fail
      refine (HB1.out _).mono ?_
      rintro e w1 ⟨rfl, hb1⟩
      have hB1 : Below w.heap.size w w1 := below_trans (by go_grown) hb1
      have z1 : w.heap.size ≤ w1.heap.size := hB1.size
      have hs1 : w.heap.size < w1.heap.size := by have := hb1.size; simp at this; omega
      have k1 : w1.cell? ⟨w.heap.size, 0, none⟩ = some (.int .i64 n) := (hb1.cell (by simp <;> omega)).trans (by go_simp)
      have k2 : w1.cell? ⟨w.heap.size, 1, none⟩ = some (.slice a R.length cap) := (hb1.cell (by simp <;> omega)).trans (by go_simp)
      go_wp2_with fail
      refine (HB2.out _).mono ?_
      rintro e w2 ⟨rfl, hb2⟩
      have hB2 : Below w.heap.size w w2 := below_trans (by go_grown) hb2
      have z2 : w.heap.size ≤ w2.heap.size := hB2.size
      have k3 : w2.cell? ⟨w.heap.size, 0, none⟩ = some (.int .i64 n) := (hb2.cell (by simp <;> omega)).trans (by go_simp)
      have k4 : w2.cell? ⟨w.heap.size, 1, none⟩ = some (.slice a R.length cap) := (hb2.cell (by simp <;> omega)).trans (by go_simp)
      go_wp2
      have hbk : Blk w2 w.heap.size [.int .i64 n, .slice a R.length cap] 24 := ((Blk.new w [.int .i64 n, .slice a R.length cap] _).step hb1).step hb2
      go_loopw [19] (fun i wr => ∃ k : Nat, k ≤ R.length ∧ i = .int .i64 k ∧ S13.rows n ((R.map Row13.l).take k) = 0 ∧ Blk wr w.heap.size [.int .i64 n, .slice a R.length cap] 24 ∧ Below w.heap.size w wr) (fun i _ => R.length - (intOf i).toNat)
      case atStart => exact ⟨0, by omega, rfl, rfl, hbk, hB2⟩
      case round =>
        obtain ⟨k, hk, rfl, h0, hbk, hB⟩ := hrel
        have hbl := hbk.lt
        have c0 := hbk.cell 0
        simp only [List.getElem?_cons_zero] at c0
        by_cases hlt : k < R.length
        · have hlt2 : (k : Int) < R.length := by omega
          obtain ⟨r, hr⟩ : ∃ r, R[k]? = some r := ⟨R[k], List.getElem?_eq_getElem hlt⟩
          have hrl : (R.map Row13.l)[k]? = some r.l := by rw [List.getElem?_map, hr]; rfl
          have hat := S13.rows_at n hrl h0
          have hro := (hok r (List.mem_of_getElem? hr))
          obtain ⟨g, o, rfl, hcs⟩ := (hrd.step hB).at (i := k) (by rw [List.length_map]; exact hlt)
          have hc : wr.cell? ⟨g, o + k, none⟩ = some (.slice r.a r.l.length r.cap) := by
            rw [hcs k (by rw [List.length_map]; exact hlt), List.getElem_map]
            rw [List.getElem?_eq_getElem hlt] at hr
            rw [Option.some.inj hr]; rfl
          have H0 := Lib.hid h0
          have Hat := Lib.hid hat
          clear h0 hat hcs hrl
          by_cases hlen : (r.l.length : Int) = n
          · have HC := Lib.hid fun W (hb : Below w.heap.size w W) => containsFuncInts_any _ enterHeavy S13.heavy heavy13_any r.l r.a r.cap W (by have := hro.1; have := hro.2.1; omega) ((hok r (List.mem_of_getElem? hr)).2.2.below hb (fun b o e hne => by
              obtain ⟨b', o', e', hcc⟩ := hro.2.2 hne
              rw [e] at e'; cases e'
              cases hxs : Ints r.l with
              | nil => exact absurd hxs hne
              | cons v vs => exact block_lt_of_cell (hcc 0 v (by rw [hxs]; rfl))))
            cases hany : r.l.any S13.heavy with
            | true =>
              rw [hany] at HC
              have He : S13.rows n (R.map Row13.l) = 2 := by
                have h6 : S13.rows n ((R.map Row13.l).take (k + 1)) = 2 := by rw [Hat.out.1, if_neg (by simpa using hlen), if_pos hany]
                rw [Hat.out.2 (by rw [h6]; omega), h6]
              have HE := Lib.hid He
              clear He hany
              go_wp2_with fail
              refine (HC.out _ hB).mono ?_
              rintro e w3 ⟨rfl, hb3⟩
              have hB3 : Below w.heap.size w w3 := below_trans hB hb3
              go_wp2
              go_returns
              exact ⟨ret_i64 HE.out.symm, hB3⟩
            | false =>
              rw [hany] at HC
              have H6 := Lib.hid (show S13.rows n ((R.map Row13.l).take (k + 1)) = 0 by rw [Hat.out.1, if_neg (by simpa using hlen), if_neg (by rw [hany]; simp)])
              clear hany
              go_wp2_with fail
              refine (HC.out _ hB).mono ?_
              rintro e w3 ⟨rfl, hb3⟩
              have hB3 : Below w.heap.size w w3 := below_trans hB hb3
              have hbk3 := hbk.step hb3
              go_wp2
              go_roundw
              case rel => exact ⟨k + 1, by omega, by go_num, H6.out, hbk3, hB3⟩
              case measure => simp [intOf]; omega
          · have He : S13.rows n (R.map Row13.l) = 6 := by
              have h6 : S13.rows n ((R.map Row13.l).take (k + 1)) = 6 := by rw [Hat.out.1, if_pos hlen]
              rw [Hat.out.2 (by rw [h6]; omega), h6]
            have HE := Lib.hid He
            clear He
            go_wp2
            go_returns
            exact ⟨ret_i64 HE.out.symm, hB⟩
        · obtain rfl : k = R.length := by omega
          have hlt2 : ¬ (R.length : Int) < R.length := by omega
          rw [show (R.map Row13.l).take R.length = R.map Row13.l by rw [← List.length_map (f := Row13.l), List.take_length]] at h0
          have H0 := Lib.hid h0
          clear h0
          go_wp2
          go_returns
          exact ⟨ret_i64 H0.out.symm, hB⟩
    · have hck : S13.check 16 n (R.map Row13.l) = 6 := by
        unfold S13.check; rw [if_pos (by rw [List.length_map]; omega)]
      have hb : (decide ((1 : Int) ≤ R.length) && decide ((R.length : Int) ≤ 65536)) = false := by
        rw [Bool.and_eq_false_iff, decide_eq_false_iff_not, decide_eq_false_iff_not]; omega
      rw [hb] at HB2
      rw [hck]
      clear hck hb
      go_enter Try.func15, Try.ntmps15
      go_wp2_with fail
      refine (HB1.out _).mono ?_
      rintro e w1 ⟨rfl, hb1⟩
      have hB1 : Below w.heap.size w w1 := below_trans (by go_grown) hb1
      have z1 : w.heap.size ≤ w1.heap.size := hB1.size
      have hs1 : w.heap.size < w1.heap.size := by have := hb1.size; simp at this; omega
      have k5 : w1.cell? ⟨w.heap.size, 0, none⟩ = some (.int .i64 n) := (hb1.cell (by simp <;> omega)).trans (by go_simp)
      have k6 : w1.cell? ⟨w.heap.size, 1, none⟩ = some (.slice a R.length cap) := (hb1.cell (by simp <;> omega)).trans (by go_simp)
      go_wp2_with fail
      refine (HB2.out _).mono ?_
      rintro e w2 ⟨rfl, hb2⟩
      have hB2 : Below w.heap.size w w2 := below_trans (by go_grown) hb2
      have z2 : w.heap.size ≤ w2.heap.size := hB2.size
      go_wp2
      go_returns
      exact ⟨rfl, hB2⟩
  · have hck : S13.check 16 n (R.map Row13.l) = 6 := by
      unfold S13.check; rw [if_pos (by omega)]
    have hb : (decide (1 ≤ n) && decide (n ≤ 16)) = false := by
      rw [Bool.and_eq_false_iff, decide_eq_false_iff_not, decide_eq_false_iff_not]; omega
    rw [hb] at HB1
    rw [hck]
    clear hck hb
    go_enter Try.func15, Try.ntmps15
    go_wp2_with fail
    refine (HB1.out _).mono ?_
    rintro e w1 ⟨rfl, hb1⟩
    have hB1 : Below w.heap.size w w1 := below_trans (by go_grown) hb1
    have z1 : w.heap.size ≤ w1.heap.size := hB1.size
    go_wp2
    go_returns
    exact ⟨rfl, hB1⟩
end Go.Proofs.Ytkpkkbpfcchgaaa
