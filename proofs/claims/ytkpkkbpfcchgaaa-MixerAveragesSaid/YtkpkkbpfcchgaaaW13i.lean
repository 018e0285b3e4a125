/- The walk of the reference Check (layer 13). No condition. -/
import Derived.Test.YtkpkkbpfcchgaaaW13h
set_option linter.unusedSimpArgs false
set_option linter.unusedVariables false
set_option linter.unusedSectionVars false
namespace Go.Proofs.Ytkpkkbpfcchgaaa
open Go.RowKit

theorem S13.any_take (f : Int → Bool) (xs : List Int) (k : Nat) (h : k < xs.length) : (xs.take (k + 1)).any f = ((xs.take k).any f || f (xs.getD k 0)) := by
  rw [S13.getD_take xs h, List.any_append, List.any_cons, List.any_nil, Bool.or_false]

set_option maxHeartbeats 2000000 in
theorem refCheck13_ok (n : Int) (R : List Row13) (a : Option Addr) (cap : Nat) (w : World) (hn : 1 ≤ n) (hn' : n ≤ 16) (hl : 1 ≤ R.length) (hl' : R.length ≤ 65536) (h1 : R.length ≤ cap) (h2 : cap ≤ 9223372036854775807)
    (hrd : Rd w a (R.map Row13.head)) (hok : ∀ r ∈ R, r.ok w) :
    Calls Try.prog 16 #[.agg #[.int .i64 n, .slice a R.length cap]] w fun e w' => e = .returned (.int .i64 (S13.rows n (R.map Row13.l))) ∧ Below w.heap.size w w' := by
  have e1 : ¬ n < 1 := by omega
  have e2 : ¬ 16 < n := by omega
  have e3 : ¬ (R.length : Int) < 1 := by omega
  have e4 : ¬ (65536 : Int) < R.length := by omega
  obtain ⟨nn, rfl⟩ : ∃ nn : Nat, n = nn := ⟨n.toNat, by omega⟩
  go_enter Try.func16, Try.ntmps16
  go_wp2
  have hb0 := Blk.new w [.int .i64 nn, .slice a R.length cap] 24
  go_loopw [3] (fun i wr => ∃ k : Nat, k ≤ R.length ∧ i = .int .i64 k ∧ S13.rows nn ((R.map Row13.l).take k) = 0 ∧ Blk wr w.heap.size [.int .i64 nn, .slice a R.length cap] 24 ∧ Below w.heap.size w wr) (fun i _ => R.length - (intOf i).toNat)
  case atStart => exact ⟨0, by omega, rfl, rfl, hb0, by go_grown⟩
  case round =>
    obtain ⟨wo, rfl⟩ : ∃ wo : World, wo = wr := ⟨_, rfl⟩
    obtain ⟨k, hk, rfl, h0, hbk, hB⟩ := hrel
    have hbl := hbk.lt
    have c0 := hbk.cell 0
    have c1 := hbk.cell 1
    simp only [List.getElem?_cons_zero, List.getElem?_cons_succ] at c0 c1
    by_cases hlt : k < R.length
    · have hlt2 : (k : Int) < R.length := by omega
      obtain ⟨r, g, o, hr, rfl, hcell, hro, hgl⟩ := row13_at hrd hok hlt
      have hrl : (R.map Row13.l)[k]? = some r.l := by rw [List.getElem?_map, hr]; rfl
      have Hat := Lib.hid (S13.rows_at nn hrl h0)
      have hgb := block_lt_of_cell hcell
      have hc : wo.cell? ⟨g, o + k, none⟩ = some (.slice r.a r.l.length r.cap) := (hB.cell hgb).trans hcell
      have Hbk := Lib.hid hbk
      have H0 := Lib.hid h0
      clear h0 hrl hbk hgl hcell
      by_cases hlen : (r.l.length : Int) = nn
      · have hne : ((r.l.length : Int) != nn) = false := by simpa using hlen
        have hlenN : r.l.length = nn := by omega
        rw [hlenN] at hc hne
        have Hr := Lib.hid hro
        clear hro hlen
        go_wp2
        go_quiet (fail)
        go_wp2
        go_loopw [4] (fun i wr => ∃ j : Nat, j ≤ nn ∧ i = .int .i64 j ∧ (r.l.take j).any S13.heavy = false ∧ Below w.heap.size w wr ∧ Blk wr w.heap.size [.int .i64 nn, .slice (some ⟨g, o, none⟩) R.length cap] 24) (fun i _ => nn - (intOf i).toNat)
        case atStart => exact ⟨0, by omega, rfl, rfl, belowN hB _, Hbk.out⟩
        case round =>
          obtain ⟨j, hj, rfl, hany, hB2, hbk2⟩ := hrel
          have hbl2 := hbk2.lt
          have d0 := hbk2.cell 0
          have d1 := hbk2.cell 1
          simp only [List.getElem?_cons_zero, List.getElem?_cons_succ] at d0 d1
          have Hbk2 := Lib.hid hbk2
          have Hany := Lib.hid hany
          clear hbk2 hany
          by_cases hjl : j < nn
          · have hjl2 : (j : Int) < nn := by omega
            obtain ⟨g2, o2, hra, hcs⟩ := Hr.out.2.2.at (i := j) (by rw [Ints_length]; omega)
            rw [hra] at hc
            have hx : w.cell? ⟨g2, o2 + j, none⟩ = some (.int .i64 (r.l.getD j 0)) := by
              rw [hcs j (by rw [Ints_length]; omega)]
              simp [Ints, List.getD_eq_getElem?_getD, List.getElem?_eq_getElem (show j < r.l.length by omega)]
            have hx2 : wr.cell? ⟨g2, o2 + j, none⟩ = some (.int .i64 (r.l.getD j 0)) := (hB2.cell (block_lt_of_cell hx)).trans hx
            have hc2 : wr.cell? ⟨g, o + k, none⟩ = some (.slice (some ⟨g2, o2, none⟩) nn r.cap) := (hB2.cell hgb).trans ((hB.cell hgb).symm.trans hc)
            have Hsn := Lib.hid (S13.any_take S13.heavy r.l j (by omega))
            have Hin : S13.heavy (r.l.getD j 0) = true → r.l.any S13.heavy = true := fun h => by
              rw [List.any_eq_true]
              refine ⟨r.l.getD j 0, ?_, h⟩
              rw [List.getD_eq_getElem?_getD, List.getElem?_eq_getElem (show j < r.l.length by omega)]
              exact List.getElem_mem _
            have HIn := Lib.hid Hin
            clear hcs hx Hin
            generalize r.l.getD j 0 = x at *
            have bad : S13.heavy x = true → S13.rows nn (R.map Row13.l) = 2 := fun h => by
              have h6 : S13.rows nn ((R.map Row13.l).take (k + 1)) = 2 := by rw [Hat.out.1, if_neg (by omega), if_pos (HIn.out h)]
              rw [Hat.out.2 (by rw [h6]; omega), h6]
            have Bad := Lib.hid bad
            clear bad
            by_cases x1 : x < -1048576
            · have HE := Lib.hid (Bad.out (by simp [S13.heavy]; omega))
              go_wp2
              go_returns
              exact ⟨ret_i64 HE.out.symm, hB2⟩
            · by_cases x2 : 1048576 < x
              · have HE := Lib.hid (Bad.out (by simp [S13.heavy]; omega))
                go_wp2
                go_returns
                exact ⟨ret_i64 HE.out.symm, hB2⟩
              · have Hno := Lib.hid (show (r.l.take (j + 1)).any S13.heavy = false by rw [Hsn.out, Hany.out]; simp [S13.heavy]; omega)
                go_wp2
                go_roundw
                case rel => exact ⟨j + 1, by omega, by go_num, Hno.out, hB2, Hbk2.out⟩
                case measure => simp [intOf]; omega
          · obtain rfl : j = nn := by omega
            have Hn0 := Lib.hid (show S13.rows (j : Int) ((R.map Row13.l).take (k + 1)) = 0 by
              rw [Hat.out.1, if_neg (by omega), if_neg]
              have := Hany.out
              rw [← hlenN, List.take_length] at this
              rw [this]; simp)
            go_wp2
            go_roundw
            case rel => exact ⟨k + 1, by omega, by go_num, Hn0.out, Hbk2.out, hB2⟩
            case measure => simp [intOf]; omega
      · have He : S13.rows nn (R.map Row13.l) = 6 := by
          have h6 : S13.rows nn ((R.map Row13.l).take (k + 1)) = 6 := by rw [Hat.out.1, if_pos hlen]
          rw [Hat.out.2 (by rw [h6]; omega), h6]
        have HE := Lib.hid He
        have hne : ((r.l.length : Int) != nn) = true := by simpa using hlen
        clear He hlen hro
        go_wp2
        go_quiet (fail)
        go_wp2
        go_returns
        exact ⟨ret_i64 HE.out.symm, belowN hB _⟩
    · obtain rfl : k = R.length := by omega
      have hlt2 : ¬ (R.length : Int) < R.length := by omega
      rw [show (R.map Row13.l).take R.length = R.map Row13.l by rw [← List.length_map (f := Row13.l), List.take_length]] at h0
      have H0 := Lib.hid h0
      clear h0
      go_wp2
      go_returns
      exact ⟨ret_i64 H0.out.symm, hB⟩

theorem refCheck13_any (n : Int) (L : List (List Int)) (V : Value) (w : World) (hV : MixIs n L V w) :
    Calls Try.prog 16 #[V] w fun e w' => e = .returned (.int .i64 (S13.check 16 n L)) ∧ Below w.heap.size w w' := by
  obtain ⟨R, a, cap, rfl, rfl, h1, h2, hrd, hok⟩ := hV
  by_cases h : n < 1 ∨ 16 < n ∨ R.length < 1 ∨ 65536 < R.length
  · have hck : S13.check 16 n (R.map Row13.l) = 6 := by
      unfold S13.check; rw [if_pos (by rw [List.length_map]; omega)]
    rw [hck]
    have hw : n < 1 ∨ (¬ n < 1 ∧ 16 < n) ∨ (¬ n < 1 ∧ ¬ 16 < n ∧ (R.length : Int) < 1) ∨ (¬ n < 1 ∧ ¬ 16 < n ∧ ¬ (R.length : Int) < 1 ∧ (65536 : Int) < R.length) := by omega
    clear h hrd hok hck
    generalize R.length = m at *
    rcases hw with hw | ⟨hw, hw2⟩ | ⟨hw, hw2, hw3⟩ | ⟨hw, hw2, hw3, hw4⟩
    all_goals
      go_enter Try.func16, Try.ntmps16
      go_wp2
      go_returns
      exact ⟨rfl, by go_grown⟩
  · have hck : S13.check 16 n (R.map Row13.l) = S13.rows n (R.map Row13.l) := by
      unfold S13.check; rw [if_neg (by rw [List.length_map]; omega)]
    rw [hck]
    exact refCheck13_ok n R a cap w (by omega) (by omega) (by omega) (by omega) h1 h2 hrd hok
end Go.Proofs.Ytkpkkbpfcchgaaa
