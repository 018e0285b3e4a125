/- The walk of the reference Mix (layer 13). No condition. -/
import Derived.Test.YtkpkkbpfcchgaaaW13i
set_option linter.unusedSimpArgs false
set_option linter.unusedVariables false
set_option linter.unusedSectionVars false
namespace Go.Proofs.Ytkpkkbpfcchgaaa
open Go.RowKit

theorem S13.not_strong {x : Int} (h : S13.strong x = false) : S06.clip x = x := by
  simp [S13.strong] at h
  exact S06.clip_in (by omega) (by omega)
theorem S13.is_strong {x : Int} (h : S13.strong x = true) : S06.clip x ≠ x := by
  simp [S13.strong] at h
  unfold S06.clip; omega

set_option maxHeartbeats 2000000 in
theorem refMix13_loop (n : Int) (L : List (List Int)) (ma : Option Addr) (mc c : Nat) (xs : List Int) (a : Option Addr) (cap : Nat) (w : World) (hM : MixIs n L (.agg #[.int .i64 n, .slice ma L.length mc]) w) (hrd : Rd w a (Ints xs))
    (hck : S13.check 16 n L = 0) (hc : c < L.length) (hlen : (xs.length : Int) = n) :
    Calls Try.prog 18 #[.agg #[.int .i64 n, .slice ma L.length mc], .int .i64 c, .slice a xs.length cap] w fun e w' => e = .returned (.tuple #[.int .i64 (S13.mixR n L c xs), .int .i64 (S13.usable 16 n L c xs)]) ∧ Below w.heap.size w w' := by
  have HC := Lib.hid fun W (hb : Below w.heap.size w W) => refCheck13_any n L _ W (hM.step hb)
  rw [hck] at HC
  obtain ⟨k1, k2, k3, k4, k5⟩ := S13.check_zero hck
  have hus : S13.usable 16 n L c xs = if xs.any S13.strong then 2 else 0 := by
    unfold S13.usable
    rw [if_neg (by simpa using hck), if_neg (by omega), if_neg (by simpa using hlen)]
  obtain ⟨R, ra, rc, rfl, hRV, h1, h2, hrm, hok⟩ := hM
  simp at hRV
  obtain ⟨rfl, rfl⟩ := hRV
  rw [List.length_map] at *
  obtain ⟨r, g, o, hRr, rfl, hcell, hro, hgl⟩ := row13_at hrm hok hc
  have hgb := block_lt_of_cell hcell
  have hrm2 := k5 r.l (List.mem_map.2 ⟨r, List.mem_of_getElem? hRr, rfl⟩)
  have hmx : S13.mixR n (R.map Row13.l) c xs = if xs.any S13.strong then 0 else S13.mix r.l xs := by
    unfold S13.mixR
    rw [hus]
    cases xs.any S13.strong
    · simp only [Bool.false_eq_true, if_false, if_true, Int.toNat_natCast, hgl]
    · simp
  rw [hus, hmx]
  obtain ⟨E, hE⟩ : ∃ E : Int, E = if xs.any S13.strong then 2 else 0 := ⟨_, rfl⟩
  obtain ⟨X, hX⟩ : ∃ X : Int, X = if xs.any S13.strong then 0 else S13.mix r.l xs := ⟨_, rfl⟩
  rw [← hE, ← hX]
  have HE := Lib.hid hE
  have HX := Lib.hid hX
  clear hE hX
  have hrl : r.l.length = xs.length := by omega
  have hlt := S13.light hrm2.2
  have Hr := Lib.hid hro.2.2
  have i1 : (c : Int) < R.length := by omega
  have i2 : ¬ (R.length : Int) ≤ c := by omega
  have i3 : ((xs.length : Int) != n) = false := by simpa using hlen
  rw [hrl] at hcell
  have hl16 : xs.length ≤ 16 := by omega
  clear hus hmx hgl hrm hok hro k5 hck hRr
  generalize R.length = m at *
  have hsel : ∀ (j : Nat), j < xs.length → r.l.getD j 0 ≥ -1048576 ∧ r.l.getD j 0 ≤ 1048576 := fun j hj => S13.getD_mem (P := fun x => -1048576 ≤ x ∧ x ≤ 1048576) hlt (by omega)
  have Hsel := Lib.hid hsel
  clear hsel hlt
  go_enter Try.func18, Try.ntmps18
  go_wp2_with fail
  refine (HC.out _ (by go_grown)).mono ?_
  rintro e w1 ⟨rfl, hb1⟩
  have hB1 : Below w.heap.size w w1 := below_trans (by go_grown) hb1
  have z1 : w.heap.size ≤ w1.heap.size := hB1.size
  have hs1 : w.heap.size < w1.heap.size := by have := hb1.size; simp at this; omega
  have k1 : w1.cell? ⟨w.heap.size, 0, none⟩ = some (.int .i64 n) := (hb1.cell (by simp <;> omega)).trans (by go_simp)
  have k2 : w1.cell? ⟨w.heap.size, 1, none⟩ = some (.slice (some ⟨g, o, none⟩) m mc) := (hb1.cell (by simp <;> omega)).trans (by go_simp)
  have Hbk1 := Lib.hid ((Blk.new w [.int .i64 n, .slice (some ⟨g, o, none⟩) m mc] 24).step hb1)
  go_wp2
  go_loopw [9, 10] (fun s i wr => ∃ k : Nat, k ≤ xs.length ∧ i = .int .i64 k ∧ s = .int .i64 (S13.sum (r.l.take k) (xs.take k)) ∧ (xs.take k).any S13.strong = false ∧ -3220176896 * (k : Int) ≤ S13.sum (r.l.take k) (xs.take k) ∧ S13.sum (r.l.take k) (xs.take k) ≤ 3220176896 * (k : Int) ∧
    Blk wr w.heap.size [.int .i64 n, .slice (some ⟨g, o, none⟩) m mc] 24 ∧ Below w.heap.size w wr) (fun _ i _ => xs.length - (intOf i).toNat)
  case atStart => exact ⟨0, by omega, rfl, by simp [S13.sum], rfl, by simp [S13.sum], by simp [S13.sum], Hbk1.out, hB1⟩
  case round =>
    obtain ⟨k, hk, rfl, rfl, hany, hs1', hs2', hbk, hB⟩ := hrel
    have hbl := hbk.lt
    have c0 := hbk.cell 0
    have c1 := hbk.cell 1
    simp only [List.getElem?_cons_zero, List.getElem?_cons_succ] at c0 c1
    have Hbk := Lib.hid hbk
    have Hany := Lib.hid hany
    clear hbk hany
    by_cases hkl : k < xs.length
    · have hkl2 : (k : Int) < xs.length := by omega
      obtain ⟨gx, ox, rfl, hcx⟩ := hrd.at (i := k) (by rw [Ints_length]; omega)
      obtain ⟨gw, ow, hra, hcw⟩ := Hr.out.at (i := k) (by rw [Ints_length]; omega)
      rw [hra] at hcell
      have hx : w.cell? ⟨gx, ox + k, none⟩ = some (.int .i64 (xs.getD k 0)) := by
        rw [hcx k (by rw [Ints_length]; omega)]
        simp [Ints, List.getD_eq_getElem?_getD, List.getElem?_eq_getElem hkl]
      have hw : w.cell? ⟨gw, ow + k, none⟩ = some (.int .i64 (r.l.getD k 0)) := by
        rw [hcw k (by rw [Ints_length]; omega)]
        simp [Ints, List.getD_eq_getElem?_getD, List.getElem?_eq_getElem (show k < r.l.length by omega)]
      have hxr : wr.cell? ⟨gx, ox + k, none⟩ = some (.int .i64 (xs.getD k 0)) := (hB.cell (block_lt_of_cell hx)).trans hx
      have hwr : wr.cell? ⟨gw, ow + k, none⟩ = some (.int .i64 (r.l.getD k 0)) := (hB.cell (block_lt_of_cell hw)).trans hw
      have hcr : wr.cell? ⟨g, o + c, none⟩ = some (.slice (some ⟨gw, ow, none⟩) xs.length r.cap) := (hB.cell hgb).trans hcell
      have Hsn := Lib.hid (S13.any_take S13.strong xs k hkl)
      have HIn : S13.strong (xs.getD k 0) = true → xs.any S13.strong = true := fun h => by
        rw [List.any_eq_true]
        refine ⟨xs.getD k 0, ?_, h⟩
        rw [List.getD_eq_getElem?_getD, List.getElem?_eq_getElem hkl]
        exact List.getElem_mem _
      have HSum := Lib.hid (S13.sum_take (ws := r.l) (xs := xs) hrl hkl)
      have hwb := Hsel.out k hkl
      have hlw := block_lt_of_cell hwr
      have hlx := block_lt_of_cell hxr
      have hlc := block_lt_of_cell hcr
      simp only at hlw hlx hlc
      clear hcx hcw hx hw
      generalize xs.getD k 0 = x at *
      generalize r.l.getD k 0 = wt at *
      generalize S13.sum (r.l.take k) (xs.take k) = s at *
      have HCl := Lib.hid fun W => refClip06_any x W
      cases hst : S13.strong x with
      | true =>
        have Hall := Lib.hid (HIn hst)
        have hne : ((S06.clip x : Int) != x) = true := by simpa using S13.is_strong hst
        clear HIn hst
        go_wp2
        refine wp_region_all 10 (Keeps wr [(⟨gx, ox + k, none⟩, .int .i64 x)]) (by kernel_rfl) rfl (by kernel_rfl) (Keeps.start (by simp only [Cells]; exact ⟨hxr, trivial⟩)) (fun Y F hY hF => ?_)
        repeat
          apply wpSteady_value (by first | rfl | (rw [hY]; rfl))
          · intro w2 ⟨hB2, hk2⟩
            simp only [Cells] at hk2
            go_simp
            with_reducible rfl
          simp only [Act.put, List.setIfInBounds_toArray, List.set_cons_zero, List.set_cons_succ]
        apply wpSteady_call (by first | rfl | (rw [hY]; rfl))
        · intro w2 ⟨hB2, hk2⟩
          simp only [Cells] at hk2
          go_simp
          with_reducible exact ⟨rfl, rfl⟩
        · intro w2 hS2
          have hk2 := hS2.2
          simp only [Cells] at hk2
          refine (HCl.out _).mono ?_
          rintro e w3 ⟨rfl, hb3⟩
          exact ⟨rfl, hS2.step hb3⟩
        simp only [Act.put, List.setIfInBounds_toArray, List.set_cons_zero, List.set_cons_succ]
        repeat
          apply wpSteady_value (by first | rfl | (rw [hY]; rfl))
          · intro w2 ⟨hB2, hk2⟩
            simp only [Cells] at hk2
            go_simp
            with_reducible rfl
          simp only [Act.put, List.setIfInBounds_toArray, List.set_cons_zero, List.set_cons_succ]
        refine hF.out _ (fun w4 hS4 => ?_)
        clear hF hY
        have hB4 : Below w.heap.size w w4 := below_trans hB hS4.1
        clear hS4
        go_wp2
        go_returns
        exact ⟨by rw [HE.out, HX.out, Hall.out]; rfl, hB4⟩
      | false =>
        have hcl := S13.not_strong hst
        rw [hcl] at HCl
        have hb : -3071 ≤ x ∧ x ≤ 3071 := by simp [S13.strong] at hst; omega
        have hm := S13.mul_abs (A := 3071) (B := 1048576) hb.1 hb.2 hwb.1 hwb.2
        have Hno := Lib.hid (show (xs.take (k + 1)).any S13.strong = false by rw [Hsn.out, Hany.out, hst]; rfl)
        have e1 : IntKind.i64.wrap (x * wt) = x * wt := IntWalk.i64_in _ (by omega)
        have e2 : IntKind.i64.wrap (s + x * wt) = s + x * wt := IntWalk.i64_in _ (by omega)
        have hms : S13.sum (r.l.take (k + 1)) (xs.take (k + 1)) = s + x * wt := by rw [HSum.out, Int.mul_comm]
        have Hms := Lib.hid hms
        have i5 : (k : Int) < xs.length := hkl2
        have i6 : (0 : Int) ≤ (k : Int) := by omega
        have i7 : (0 : Int) ≤ (c : Int) := by omega
        clear HIn hst hcl hms HSum Hsn
        go_wp2
        refine wp_region_all 10 (Keeps wr [(⟨gx, ox + k, none⟩, .int .i64 x)]) (by kernel_rfl) rfl (by kernel_rfl) (Keeps.start (by simp only [Cells]; exact ⟨hxr, trivial⟩)) (fun Y F hY hF => ?_)
        repeat
          apply wpSteady_value (by first | rfl | (rw [hY]; rfl))
          · intro w2 ⟨hB2, hk2⟩
            simp only [Cells] at hk2
            go_simp
            with_reducible rfl
          simp only [Act.put, List.setIfInBounds_toArray, List.set_cons_zero, List.set_cons_succ]
        apply wpSteady_call (by first | rfl | (rw [hY]; rfl))
        · intro w2 ⟨hB2, hk2⟩
          simp only [Cells] at hk2
          go_simp
          with_reducible exact ⟨rfl, rfl⟩
        · intro w2 hS2
          have hk2 := hS2.2
          simp only [Cells] at hk2
          refine (HCl.out _).mono ?_
          rintro e w3 ⟨rfl, hb3⟩
          exact ⟨rfl, hS2.step hb3⟩
        simp only [Act.put, List.setIfInBounds_toArray, List.set_cons_zero, List.set_cons_succ]
        repeat
          apply wpSteady_value (by first | rfl | (rw [hY]; rfl))
          · intro w2 ⟨hB2, hk2⟩
            simp only [Cells] at hk2
            go_simp
            with_reducible rfl
          simp only [Act.put, List.setIfInBounds_toArray, List.set_cons_zero, List.set_cons_succ]
        refine hF.out _ (fun w4 hS4 => ?_)
        clear hF hY
        have hC4 := hS4.1
        have hB4 : Below w.heap.size w w4 := below_trans hB hS4.1
        clear hS4
        have hxr4 := (hC4.cell hlx).trans hxr
        have hwr4 := (hC4.cell hlw).trans hwr
        have hcr4 := (hC4.cell hlc).trans hcr
        have c04 := (hC4.cell (p := ⟨w.heap.size, 0, none⟩) hbl).trans c0
        have c14 := (hC4.cell (p := ⟨w.heap.size, 1, none⟩) hbl).trans c1
        have Hbk4 := Lib.hid (Hbk.out.step hC4)
        go_wp2
        refine wp_region_all 16 (Keeps w4 [(⟨gx, ox + k, none⟩, .int .i64 x), (⟨gw, ow + k, none⟩, .int .i64 wt), (⟨g, o + c, none⟩, .slice (some ⟨gw, ow, none⟩) xs.length r.cap), (⟨w.heap.size, 1, none⟩, .slice (some ⟨g, o, none⟩) m mc)]) (by kernel_rfl) rfl (by kernel_rfl) (Keeps.start (by simp only [Cells]; exact ⟨hxr4, hwr4, hcr4, c14, trivial⟩)) (fun Y F hY hF => ?_)
        repeat
          apply wpSteady_value (by first | rfl | (rw [hY]; rfl))
          · intro w2 ⟨hB2, hk2⟩
            simp only [Cells] at hk2
            go_simp
            with_reducible rfl
          simp only [Act.put, List.setIfInBounds_toArray, List.set_cons_zero, List.set_cons_succ]
        refine hF.out _ (fun w5 hS5 => ?_)
        clear hF hY
        have hB5 : Below w.heap.size w w5 := below_trans hB4 hS5.1
        have Hbk5 := Lib.hid (Hbk4.out.step hS5.1)
        clear hS5
        go_wp2
        go_roundw
        case rel => exact ⟨k + 1, by omega, by go_num, by rw [Hms.out], Hno.out, by rw [Hms.out]; omega, by rw [Hms.out]; omega, Hbk5.out, hB5⟩
        case measure => simp [intOf]; omega
    · obtain rfl : k = xs.length := by omega
      have etk : S13.sum (r.l.take xs.length) (xs.take xs.length) = S13.sum r.l xs := by rw [List.take_length, ← hrl, List.take_length]
      rw [etk] at hs1' hs2' ⊢
      have Hany2 := Lib.hid (show xs.any S13.strong = false by have := Hany.out; rw [List.take_length] at this; exact this)
      have HRd := Lib.hid fun W => refRound06_any (S13.sum r.l xs) 65536 W (by omega) (by omega) (by omega) (by omega)
      have HCl := Lib.hid fun W => refClip06_any (S06.round (S13.sum r.l xs) 65536) W
      have Hq := Lib.hid (show S13.mix r.l xs = S06.clip (S06.round (S13.sum r.l xs) 65536) from rfl)
      generalize S06.clip (S06.round (S13.sum r.l xs) 65536) = q at *
      generalize S06.round (S13.sum r.l xs) 65536 = p at *
      clear hs1' hs2' etk
      go_wp2_with fail
      refine (HRd.out _).mono ?_
      rintro e w2 ⟨rfl, hb2⟩
      have hB2 : Below w.heap.size w w2 := below_trans hB hb2
      go_wp2_with fail
      refine (HCl.out _).mono ?_
      rintro e w3 ⟨rfl, hb3⟩
      have hB3 : Below w.heap.size w w3 := below_trans hB2 hb3
      go_wp2
      go_returns
      exact ⟨by rw [HE.out, HX.out, Hany2.out, ← Hq.out]; rfl, hB3⟩
end Go.Proofs.Ytkpkkbpfcchgaaa
