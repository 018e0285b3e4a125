/- The walks of the reference Mix at any input, Same and Few (layer 13). No condition. -/
import Derived.Test.YtkpkkbpfcchgaaaW13j
set_option linter.unusedSimpArgs false
set_option linter.unusedVariables false
set_option linter.unusedSectionVars false
namespace Go.Proofs.Ytkpkkbpfcchgaaa
open Go.RowKit

theorem mixShape {n : Int} {L : List (List Int)} {V : Value} {w : World} (h : MixIs n L V w) : ∃ a cap, V = .agg #[.int .i64 n, .slice a L.length cap] ∧ MixIs n L (.agg #[.int .i64 n, .slice a L.length cap]) w :=
  let ⟨a, cap, e, _, _, h⟩ := mixOpen h
  ⟨a, cap, e, h⟩

set_option maxHeartbeats 1000000 in
theorem refMix13_any (n : Int) (L : List (List Int)) (V : Value) (c : Int) (xs : List Int) (a : Option Addr) (cap : Nat) (w : World) (hV : MixIs n L V w) (hlen : xs.length ≤ 9223372036854775807) (hrd : Rd w a (Ints xs)) :
    Calls Try.prog 18 #[V, .int .i64 c, .slice a xs.length cap] w fun e w' => e = .returned (.tuple #[.int .i64 (S13.mixR n L c xs), .int .i64 (S13.usable 16 n L c xs)]) ∧ Below w.heap.size w w' := by
  obtain ⟨ma, mc, rfl, m1, m2, hM⟩ := mixOpen hV
  by_cases hck : S13.check 16 n L = 0
  · by_cases hc : c < 0 ∨ (L.length : Int) ≤ c
    · have HC := Lib.hid fun W (hb : Below w.heap.size w W) => refCheck13_any n L _ W (hM.step hb)
      rw [hck] at HC
      have hu : S13.usable 16 n L c xs = 7 := by
        unfold S13.usable; rw [if_neg (by simpa using hck), if_pos hc]
      have hr : S13.mixR n L c xs = 0 := by unfold S13.mixR; rw [hu]; rfl
      rw [hu, hr]
      have hw : c < 0 ∨ (¬ c < 0 ∧ (L.length : Int) ≤ c) := by omega
      clear hck hc hu hr hM hrd hV
      generalize L.length = m at *
      generalize xs.length = l at *
      rcases hw with hw | ⟨hw, hw2⟩
      all_goals
        go_enter Try.func18, Try.ntmps18
        go_wp2_with fail
        refine (HC.out _ (by go_grown)).mono ?_
        rintro e w1 ⟨rfl, hb1⟩
        have hB1 : Below w.heap.size w w1 := below_trans (by go_grown) hb1
        have z1 : w.heap.size ≤ w1.heap.size := hB1.size
        have hs1 : w.heap.size < w1.heap.size := by have := hb1.size; simp at this; omega
        have k1 : w1.cell? ⟨w.heap.size, 0, none⟩ = some (.int .i64 n) := (hb1.cell (by simp <;> omega)).trans (by go_simp)
        have k2 : w1.cell? ⟨w.heap.size, 1, none⟩ = some (.slice ma m mc) := (hb1.cell (by simp <;> omega)).trans (by go_simp)
        go_wp2
        go_returns
        exact ⟨rfl, hB1⟩
    · by_cases hl : (xs.length : Int) = n
      · obtain ⟨c, rfl⟩ := Int.eq_ofNat_of_zero_le (show 0 ≤ c by omega)
        exact refMix13_loop n L ma mc c xs a cap w hM hrd hck (by omega) hl
      · have HC := Lib.hid fun W (hb : Below w.heap.size w W) => refCheck13_any n L _ W (hM.step hb)
        rw [hck] at HC
        have hu : S13.usable 16 n L c xs = 6 := by
          unfold S13.usable; rw [if_neg (by simpa using hck), if_neg hc, if_pos hl]
        have hr : S13.mixR n L c xs = 0 := by unfold S13.mixR; rw [hu]; rfl
        rw [hu, hr]
        have hl2 : ((xs.length : Int) != n) = true := by simpa using hl
        have hc1 : ¬ c < 0 := by omega
        have hc2 : ¬ (L.length : Int) ≤ c := by omega
        clear hck hc hu hr hM hrd hl hV
        generalize L.length = m at *
        generalize xs.length = l at *
        go_enter Try.func18, Try.ntmps18
        go_wp2_with fail
        refine (HC.out _ (by go_grown)).mono ?_
        rintro e w1 ⟨rfl, hb1⟩
        have hB1 : Below w.heap.size w w1 := below_trans (by go_grown) hb1
        have z1 : w.heap.size ≤ w1.heap.size := hB1.size
        have hs1 : w.heap.size < w1.heap.size := by have := hb1.size; simp at this; omega
        have k3 : w1.cell? ⟨w.heap.size, 0, none⟩ = some (.int .i64 n) := (hb1.cell (by simp <;> omega)).trans (by go_simp)
        have k4 : w1.cell? ⟨w.heap.size, 1, none⟩ = some (.slice ma m mc) := (hb1.cell (by simp <;> omega)).trans (by go_simp)
        go_wp2
        go_returns
        exact ⟨rfl, hB1⟩
  · have HC := Lib.hid fun W (hb : Below w.heap.size w W) => refCheck13_any n L _ W (hM.step hb)
    have hu : S13.usable 16 n L c xs = S13.check 16 n L := by unfold S13.usable; rw [if_pos hck]
    have hr : S13.mixR n L c xs = 0 := by unfold S13.mixR; rw [hu, if_neg hck]
    rw [hu, hr]
    have hck2 : ((S13.check 16 n L : Int) != 0) = true := by simpa using hck
    clear hck hu hr hM hrd hV
    generalize S13.check 16 n L = y at *
    generalize L.length = m at *
    generalize xs.length = l at *
    go_enter Try.func18, Try.ntmps18
    go_wp2_with fail
    refine (HC.out _ (by go_grown)).mono ?_
    rintro e w1 ⟨rfl, hb1⟩
    have hB1 : Below w.heap.size w w1 := below_trans (by go_grown) hb1
    have z1 : w.heap.size ≤ w1.heap.size := hB1.size
    go_wp2
    go_returns
    exact ⟨rfl, hB1⟩

/-- Two lists of numbers that are the same. -/
theorem sameInts_eq (xs : List Int) (a1 a2 : Option Addr) (c1 c2 : Nat) (w : World) (hlen : xs.length ≤ 9223372036854775807) (hr1 : Rd w a1 (Ints xs)) (hr2 : Rd w a2 (Ints xs)) :
    Calls Try.prog 26 #[.slice a1 xs.length c1, .slice a2 xs.length c2] w fun e w' => e = .returned (.bool true) ∧ Below w.heap.size w w' := by
  go_enter Try.func26, Try.ntmps26
  go_wp2
  go_loopw [5] (fun i wr => ∃ k : Nat, k ≤ xs.length ∧ i = .int .i64 k ∧ Below w.heap.size w wr) (fun i _ => xs.length - (intOf i).toNat)
  case atStart => exact ⟨0, by omega, rfl, Below.refl _ _⟩
  case round =>
    obtain ⟨k, hk, rfl, hB⟩ := hrel
    have zr : w.heap.size ≤ wr.heap.size := hB.size
    by_cases hlt : k < xs.length
    · obtain ⟨g1, o1, rfl, hcs1⟩ := (hr1.step hB).at (i := k) (by rw [Ints_length]; exact hlt)
      obtain ⟨g2, o2, rfl, hcs2⟩ := (hr2.step hB).at (i := k) (by rw [Ints_length]; exact hlt)
      have hc1 : wr.cell? ⟨g1, o1 + k, none⟩ = some (.int .i64 xs[k]) := by rw [hcs1 k (by rw [Ints_length]; exact hlt)]; simp [Ints]
      have hc2 : wr.cell? ⟨g2, o2 + k, none⟩ = some (.int .i64 xs[k]) := by rw [hcs2 k (by rw [Ints_length]; exact hlt)]; simp [Ints]
      generalize xs[k] = x at *
      clear hcs1 hcs2
      have hlt2 : (k : Int) < xs.length := by omega
      go_wp2
      go_quiet (fail)
      go_wp2
      go_roundw
      case rel => exact ⟨k + 1, by omega, by go_num, belowN hB _⟩
      case measure => simp [intOf]; omega
    · obtain rfl : k = xs.length := by omega
      go_wp2
      go_returns
      exact ⟨rfl, hB⟩

set_option maxHeartbeats 1000000 in
/-- Two mixers that are the same. -/
theorem same13_eq (n : Int) (L : List (List Int)) (V1 V2 : Value) (w : World) (hV1 : MixIs n L V1 w) (hV2 : MixIs n L V2 w) :
    Calls Try.prog 14 #[V1, V2] w fun e w' => e = .returned (.bool true) ∧ Below w.heap.size w w' := by
  obtain ⟨R1, a1, c1, rfl, rfl, p1, p2, hrd1, hok1⟩ := hV1
  obtain ⟨R2, a2, c2, hR, rfl, q1, q2, hrd2, hok2⟩ := hV2
  have hlen : R2.length = R1.length := by have := congrArg List.length hR; simpa using this.symm
  have hq1 : R1.length ≤ c2 := by omega
  rw [hlen]
  have hm63 : R1.length ≤ 9223372036854775807 := by omega
  obtain ⟨m, hm⟩ : ∃ m, m = R1.length := ⟨_, rfl⟩
  rw [← hm] at hm63 ⊢
  have Hm := Lib.hid hm
  have HlenR := Lib.hid hlen
  have HR := Lib.hid hR
  clear hlen hR hq1 q1 p1 hm
  have hne : ((m : Int) != m) = false := by simp
  have hnn : ((n : Int) != n) = false := by simp
  go_enter Try.func14, Try.ntmps14
  go_wp2
  have hb1 := (Blk.new w [.int .i64 n, .slice a1 m c1] 24).alloc (Obj.cells #[.int .i64 n, .slice a2 m c2] 24)
  have hb2 := Blk.new (w.alloc (Obj.cells #[.int .i64 n, .slice a1 m c1] 24)) [.int .i64 n, .slice a2 m c2] 24
  rw [show (w.alloc (Obj.cells #[.int .i64 n, .slice a1 m c1] 24)).heap.size = w.heap.size + 1 by simp] at hb2
  go_loopw [5] (fun i wr => ∃ k : Nat, k ≤ m ∧ i = .int .i64 k ∧ Blk wr w.heap.size [.int .i64 n, .slice a1 m c1] 24 ∧ Blk wr (w.heap.size + 1) [.int .i64 n, .slice a2 m c2] 24 ∧ Below w.heap.size w wr) (fun i _ => m - (intOf i).toNat)
  case atStart => exact ⟨0, by omega, rfl, hb1, hb2, by go_grown⟩
  case round =>
    obtain ⟨k, hk, rfl, hk1, hk2, hB⟩ := hrel
    have l1 := hk1.lt
    have l2 := hk2.lt
    have x1 := hk1.cell 1
    have x2 := hk2.cell 1
    simp only [List.getElem?_cons_zero, List.getElem?_cons_succ] at x1 x2
    have Hk1 := Lib.hid hk1
    have Hk2 := Lib.hid hk2
    clear hk1 hk2
    by_cases hlt : k < m
    · have hlt2 : (k : Int) < m := by omega
      have i0 : (0 : Int) ≤ (k : Int) := by omega
      obtain ⟨r1, g1, o1, _, rfl, hcell1, hro1, hgl1⟩ := row13_at hrd1 hok1 (k := k) (by rw [← Hm.out]; exact hlt)
      obtain ⟨r2, g2, o2, _, rfl, hcell2, hro2, hgl2⟩ := row13_at hrd2 hok2 (k := k) (by rw [HlenR.out, ← Hm.out]; exact hlt)
      have hll : r2.l = r1.l := by rw [← hgl1, ← hgl2, HR.out]
      have y1 : wr.cell? ⟨g1, o1 + k, none⟩ = some (.slice r1.a r1.l.length r1.cap) := (hB.cell (block_lt_of_cell hcell1)).trans hcell1
      have y2 : wr.cell? ⟨g2, o2 + k, none⟩ = some (.slice r2.a r1.l.length r2.cap) := by rw [← hll]; exact (hB.cell (block_lt_of_cell hcell2)).trans hcell2
      have hr2 : Rd w r2.a (Ints r1.l) := by rw [← hll]; exact hro2.2.2
      have HS := Lib.hid fun W (hb : Below w.heap.size w W) => sameInts_eq r1.l r1.a r2.a r1.cap r2.cap W (by have := hro1.1; have := hro1.2.1; omega) (hro1.2.2.step hb) (hr2.step hb)
      clear hcell1 hcell2 hgl1 hgl2 hro1 hro2 hr2 hll
      generalize r1.l.length = l at *
      go_wp2
      refine wp_region_all 12 (Keeps wr [(⟨w.heap.size, 1, none⟩, .slice (some ⟨g1, o1, none⟩) m c1), (⟨w.heap.size + 1, 1, none⟩, .slice (some ⟨g2, o2, none⟩) m c2), (⟨g1, o1 + k, none⟩, .slice r1.a l r1.cap), (⟨g2, o2 + k, none⟩, .slice r2.a l r2.cap)]) (by kernel_rfl) rfl (by kernel_rfl) (Keeps.start (by simp only [Cells]; exact ⟨x1, x2, y1, y2, trivial⟩)) (fun Y F hY hF => ?_)
      repeat
        apply wpSteady_value (by first | rfl | (rw [hY]; rfl))
        · intro w2 ⟨hB2, hk2⟩
          simp only [Cells] at hk2
          go_simp
          with_reducible rfl
        simp only [Act.put, List.setIfInBounds_toArray, List.set_cons_zero, List.set_cons_succ]
      apply wpSteady_call (by first | rfl | (rw [hY]; rfl))
      · intro w2 ⟨hB2, hk2⟩
        simp only [Cells] at hk2
        go_simp
        with_reducible exact ⟨rfl, rfl⟩
      · intro w2 hS2
        have hk2 := hS2.2
        simp only [Cells] at hk2
        refine (HS.out _ (below_trans hB hS2.1)).mono ?_
        rintro e w3 ⟨rfl, hb3⟩
        exact ⟨rfl, hS2.step hb3⟩
      simp only [Act.put, List.setIfInBounds_toArray, List.set_cons_zero, List.set_cons_succ]
      repeat
        apply wpSteady_value (by first | rfl | (rw [hY]; rfl))
        · intro w2 ⟨hB2, hk2⟩
          simp only [Cells] at hk2
          go_simp
          with_reducible rfl
        simp only [Act.put, List.setIfInBounds_toArray, List.set_cons_zero, List.set_cons_succ]
      refine hF.out _ (fun w4 hS4 => ?_)
      clear hF hY
      have hB4 : Below w.heap.size w w4 := below_trans hB hS4.1
      have hk14 := Hk1.out.step hS4.1
      have hk24 := Hk2.out.step hS4.1
      have Hk14 := Lib.hid hk14
      have Hk24 := Lib.hid hk24
      clear hS4 hk14 hk24
      go_wp2
      go_roundw
      case rel => exact ⟨k + 1, by omega, by go_num, Hk14.out, Hk24.out, hB4⟩
      case measure => simp [intOf]; omega
    · obtain rfl : k = m := by omega
      go_wp2
      go_returns
      exact ⟨rfl, hB⟩

/-- A mixer is small. -/
def S13.few (L : List (List Int)) : Bool := (L.take 100).all (fun l => decide (l.length ≤ 40)) && decide (L.length ≤ 100)

set_option maxHeartbeats 1000000 in
theorem few13_any (n : Int) (L : List (List Int)) (V : Value) (w : World) (hV : MixIs n L V w) :
    Calls Try.prog 10 #[V] w fun e w' => e = .returned (.bool (S13.few L)) ∧ Below w.heap.size w w' := by
  obtain ⟨R, a, cap, rfl, rfl, h1, h2, hrd, hok⟩ := hV
  have hfew : S13.few (R.map Row13.l) = ((R.take 100).all (fun r => decide (r.l.length ≤ 40)) && decide (R.length ≤ 100)) := by
    unfold S13.few; rw [← List.map_take, List.all_map, List.length_map]; rfl
  rw [hfew]
  clear hfew
  obtain ⟨B, hBdef⟩ : ∃ B : Bool, B = ((R.take 100).all (fun r => decide (r.l.length ≤ 40)) && decide (R.length ≤ 100)) := ⟨_, rfl⟩
  rw [← hBdef]
  have HB := Lib.hid hBdef
  clear hBdef
  go_enter Try.func10, Try.ntmps10
  go_wp2
  have hb1 := Blk.new w [.int .i64 n, .slice a R.length cap] 24
  go_loopw [3] (fun i wr => ∃ k : Nat, k ≤ R.length ∧ k ≤ 100 ∧ i = .int .i64 k ∧ (R.take k).all (fun r => decide (r.l.length ≤ 40)) = true ∧ Blk wr w.heap.size [.int .i64 n, .slice a R.length cap] 24 ∧ Below w.heap.size w wr) (fun i _ => R.length - (intOf i).toNat)
  case atStart => exact ⟨0, by omega, by omega, rfl, by simp, hb1, by go_grown⟩
  case round =>
    obtain ⟨k, hk, hk100, rfl, hall, hbk, hB⟩ := hrel
    have l1 := hbk.lt
    have x1 := hbk.cell 1
    simp only [List.getElem?_cons_zero, List.getElem?_cons_succ] at x1
    have Hbk := Lib.hid hbk
    have Hall := Lib.hid hall
    clear hbk hall
    by_cases hlt : k < R.length ∧ k < 100
    · have hlt2 : (k : Int) < R.length := by omega
      have hlt3 : (k : Int) < 100 := by omega
      obtain ⟨r, g, o, hr, rfl, hcell, hro, hgl⟩ := row13_at hrd hok hlt.1
      have y1 : wr.cell? ⟨g, o + k, none⟩ = some (.slice r.a r.l.length r.cap) := (hB.cell (block_lt_of_cell hcell)).trans hcell
      have hmem : r ∈ R.take 100 := by
        rw [List.mem_iff_getElem?]
        refine ⟨k, ?_⟩
        rw [List.getElem?_take, if_pos hlt.2]
        exact hr
      have hsn : R.take (k + 1) = R.take k ++ [r] := by rw [List.take_add_one, hr]; rfl
      by_cases h40 : r.l.length ≤ 40
      · have h40' : ¬ (40 : Int) < r.l.length := by omega
        have Hn := Lib.hid (show (R.take (k + 1)).all (fun r => decide (r.l.length ≤ 40)) = true by rw [hsn, List.all_append, Hall.out]; simp [h40])
        clear hmem hsn hro hgl h40 hr
        go_wp2
        go_roundw
        case rel => exact ⟨k + 1, by omega, by omega, by go_num, Hn.out, Hbk.out, hB⟩
        case measure => simp [intOf]; omega
      · have h40' : (40 : Int) < r.l.length := by omega
        have Hn := Lib.hid (show B = false by
          rw [HB.out, Bool.and_eq_false_iff]
          left
          rw [List.all_eq_false]
          exact ⟨r, hmem, by simpa using h40⟩)
        clear hmem hsn hro hgl h40 hr
        go_wp2
        go_returns
        exact ⟨by rw [Hn.out]; rfl, hB⟩
    · have hfin : B = decide ((R.length : Int) ≤ 100) := by
        rw [HB.out]
        by_cases hl : R.length ≤ 100
        · have : k = R.length ∨ k = 100 := by omega
          have e : R.take 100 = R.take k := by
            rcases this with h | h
            · rw [List.take_of_length_le hl, List.take_of_length_le (by omega)]
            · rw [h]
          rw [e, Hall.out, Bool.true_and]
          by_cases h : R.length ≤ 100
          · rw [decide_eq_true h, decide_eq_true (by omega)]
          · exact absurd hl h
        · rw [decide_eq_false hl, Bool.and_false, decide_eq_false (by omega)]
      have Hfin := Lib.hid hfin
      clear hfin
      have hways : (¬ (k : Int) < R.length) ∨ ((k : Int) < R.length ∧ ¬ (k : Int) < 100) := by omega
      clear hlt
      rcases hways with g | ⟨g, g2⟩
      all_goals
        go_wp2
        go_returns
        exact ⟨by rw [Hfin.out]; rfl, hB⟩
end Go.Proofs.Ytkpkkbpfcchgaaa
