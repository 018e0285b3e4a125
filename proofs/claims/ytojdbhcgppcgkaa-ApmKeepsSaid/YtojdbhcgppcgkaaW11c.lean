/- What the reference of layer 11 returns: Check, Refine; comparing. No condition. -/
import Derived.Test.YtojdbhcgppcgkaaW11b
set_option linter.unusedSimpArgs false
set_option linter.unusedVariables false
set_option linter.unusedSectionVars false
namespace Go.Proofs.Ytojdbhcgppcgkaa
open Go.RowKit

set_option maxHeartbeats 1000000 in
theorem refCheck11_any (xs : List Int) (a : Option Addr) (cap : Nat) (w : World) (hlen : xs.length ≤ 9223372036854775807) (hrd : Rd w a (Ints xs)) :
    Calls Try.prog 16 #[.agg #[.slice a xs.length cap]] w fun e w' => e = .returned (.int .i64 (S11.check xs)) ∧ Below w.heap.size w w' := by
  by_cases hl : xs.length % 33 ≠ 0 ∨ xs.length < 33 ∨ 2162688 < xs.length
  · rw [S11.check_long hl]
    have hw : (((xs.length : Int) == 0) = true) ∨ (((xs.length : Int) == 0) = false ∧ ((xs.length : Int) % 33 != 0) = true) ∨ (((xs.length : Int) == 0) = false ∧ ((xs.length : Int) % 33 != 0) = false ∧ (2162688 : Int) < xs.length) := by
      by_cases h0 : xs.length = 0
      · left; simp [h0]
      · right
        have h2 : (((xs.length : Int) == 0) = false) := by simp; intro h; exact h0 (by simp [h])
        by_cases h1 : xs.length % 33 = 0
        · have h3 : (((xs.length : Int) % 33 != 0) = false) := by simp; omega
          right; exact ⟨h2, h3, by omega⟩
        · left; exact ⟨h2, by simp; omega⟩
    clear hl hrd
    generalize xs.length = n at *
    rcases hw with hw | ⟨hw, hw2⟩ | ⟨hw, hw2, hw3⟩
    all_goals
      go_enter Try.func16, Try.ntmps16
      go_wp2
      go_returns
      exact ⟨rfl, by go_grown⟩
  · rw [S11.check_fit hl]
    have h1 : (((xs.length : Int) % 33 != 0) = false) := by simp; omega
    have h2 : (((xs.length : Int) == 0) = false) := by simp; intro h; simp [h] at hl
    have h3 : ¬ (2162688 : Int) < xs.length := by omega
    have hpos : 0 < xs.length := by omega
    obtain ⟨g, o, rfl, _⟩ := hrd.at (i := 0) (by rw [Ints_length]; omega)
    obtain ⟨r, hr⟩ : ∃ r : Int, r = (if xs.any S11.bad = true then 2 else 0) := ⟨_, rfl⟩
    rw [← hr]
    have HR := Lib.hid hr
    clear hl hr
    go_enter Try.func16, Try.ntmps16
    go_wp2
    have hb0 := Blk.new w [.slice (some ⟨g, o, none⟩) xs.length cap] 24
    go_loopw [4] (fun i wr => ∃ k : Nat, k ≤ xs.length ∧ i = .int .i64 k ∧ (xs.take k).any S11.bad = false ∧ Blk wr w.heap.size [.slice (some ⟨g, o, none⟩) xs.length cap] 24 ∧ Below w.heap.size w wr) (fun i _ => xs.length - (intOf i).toNat)
    case atStart => exact ⟨0, by omega, rfl, rfl, hb0, by go_grown⟩
    case round =>
      obtain ⟨k, hk, rfl, hno, hblk, hB⟩ := hrel
      have zr : w.heap.size ≤ wr.heap.size := hB.size
      have Hno := Lib.hid hno
      have Hblk := Lib.hid hblk
      have c0 := hblk.cell 0
      simp only [List.getElem?_cons_zero] at c0
      clear hno hblk hb0
      by_cases hlt : k < xs.length
      · obtain ⟨g2, o2, hgo, hcs⟩ := (hrd.step hB).at (i := k) (by rw [Ints_length]; exact hlt)
        obtain ⟨rfl, rfl⟩ : g = g2 ∧ o = o2 := by simp at hgo; exact hgo
        have hc : wr.cell? ⟨g, o + k, none⟩ = some (.int .i64 xs[k]) := by rw [hcs k (by rw [Ints_length]; exact hlt)]; simp [Ints]
        have Hs := Lib.hid (any_take_succ S11.bad xs k hlt)
        have Ha := Lib.hid (any_of_at S11.bad xs k hlt)
        generalize xs[k] = x at *
        clear hcs hgo
        by_cases hx : x < 0
        · have Hany := Lib.hid (Ha.out (by simp [S11.bad, hx]))
          go_wp2
          go_returns
          exact ⟨by rw [HR.out, Hany.out]; rfl, hB⟩
        · by_cases hx2 : 65535 < x
          · have Hany := Lib.hid (Ha.out (by simp [S11.bad, hx2]))
            go_wp2
            go_returns
            exact ⟨by rw [HR.out, Hany.out]; rfl, hB⟩
          · have Hn := Lib.hid (show (xs.take (k + 1)).any S11.bad = false by rw [Hs.out, Hno.out]; simp [S11.bad]; omega)
            go_wp2
            go_roundw
            case rel => exact ⟨k + 1, by omega, by go_num, Hn.out, Hblk.out, hB⟩
            case measure => simp [intOf]; omega
      · obtain rfl : k = xs.length := by omega
        have Hn := Lib.hid (show xs.any S11.bad = false by have := Hno.out; rwa [List.take_length] at this)
        go_wp2
        go_returns
        exact ⟨by rw [HR.out, Hn.out]; rfl, hB⟩

set_option maxHeartbeats 1000000 in
theorem refRow11_any (xs : List Int) (a : Option Addr) (cap : Nat) (c p : Int) (w : World) (hlen : xs.length ≤ 9223372036854775807) (hrd : Rd w a (Ints xs)) :
    Calls Try.prog 34 #[.agg #[.slice a xs.length cap], .int .i64 c, .int .i64 p] w fun e w' => e = .returned (.int .i64 (S11.usable xs c p)) ∧ Below w.heap.size w w' := by
  have HC := Lib.hid fun W (hb : Below w.heap.size w W) => refCheck11_any xs a cap W hlen (hrd.step hb)
  unfold S11.usable
  have hq : ((xs.length / 33 : Nat) : Int) = (xs.length : Int) / 33 := by omega
  rw [hq]
  clear hrd hq
  generalize S11.check xs = y at *
  generalize xs.length = n at *
  by_cases hy : y = 0
  · subst hy
    rw [if_neg (by simp)]
    by_cases hc : c < 0 ∨ (n : Int) / 33 ≤ c
    · rw [if_pos hc]
      have hw : c < 0 ∨ (¬ c < 0 ∧ (n : Int) / 33 ≤ c) := by omega
      clear hc
      rcases hw with hw | ⟨hw, hw2⟩
      all_goals
        go_enter Try.func34, Try.ntmps34
        go_wp2_with fail
        refine (HC.out _ (by go_grown)).mono ?_
        rintro e w1 ⟨rfl, hb1⟩
        have hB1 : Below w.heap.size w w1 := below_trans (by go_grown) hb1
        have z1 : w.heap.size ≤ w1.heap.size := hB1.size
        have k1 : w1.cell? ⟨w.heap.size, 0, none⟩ = some (.slice a n cap) := (hb1.cell (by simp <;> omega)).trans (by go_simp)
        have hs1 : w.heap.size < w1.heap.size := by have := hb1.size; simp at this; omega
        go_wp2
        go_returns
        exact ⟨rfl, hB1⟩
    · rw [if_neg hc]
      have h1 : ¬ c < 0 := by omega
      have h2 : ¬ (n : Int) / 33 ≤ c := by omega
      clear hc
      have hw : (p < 1) ∨ (¬ p < 1 ∧ 4095 < p) ∨ (¬ p < 1 ∧ ¬ 4095 < p) := by omega
      rcases hw with hw | ⟨hw, hw2⟩ | ⟨hw, hw2⟩
      · rw [if_pos (by omega)]
        go_enter Try.func34, Try.ntmps34
        go_wp2_with fail
        refine (HC.out _ (by go_grown)).mono ?_
        rintro e w1 ⟨rfl, hb1⟩
        have hB1 : Below w.heap.size w w1 := below_trans (by go_grown) hb1
        have z1 : w.heap.size ≤ w1.heap.size := hB1.size
        have k2 : w1.cell? ⟨w.heap.size, 0, none⟩ = some (.slice a n cap) := (hb1.cell (by simp <;> omega)).trans (by go_simp)
        have hs1 : w.heap.size < w1.heap.size := by have := hb1.size; simp at this; omega
        go_wp2
        go_returns
        exact ⟨rfl, hB1⟩
      · rw [if_pos (by omega)]
        go_enter Try.func34, Try.ntmps34
        go_wp2_with fail
        refine (HC.out _ (by go_grown)).mono ?_
        rintro e w1 ⟨rfl, hb1⟩
        have hB1 : Below w.heap.size w w1 := below_trans (by go_grown) hb1
        have z1 : w.heap.size ≤ w1.heap.size := hB1.size
        have k3 : w1.cell? ⟨w.heap.size, 0, none⟩ = some (.slice a n cap) := (hb1.cell (by simp <;> omega)).trans (by go_simp)
        have hs1 : w.heap.size < w1.heap.size := by have := hb1.size; simp at this; omega
        go_wp2
        go_returns
        exact ⟨rfl, hB1⟩
      · rw [if_neg (by omega)]
        go_enter Try.func34, Try.ntmps34
        go_wp2_with fail
        refine (HC.out _ (by go_grown)).mono ?_
        rintro e w1 ⟨rfl, hb1⟩
        have hB1 : Below w.heap.size w w1 := below_trans (by go_grown) hb1
        have z1 : w.heap.size ≤ w1.heap.size := hB1.size
        have k4 : w1.cell? ⟨w.heap.size, 0, none⟩ = some (.slice a n cap) := (hb1.cell (by simp <;> omega)).trans (by go_simp)
        have hs1 : w.heap.size < w1.heap.size := by have := hb1.size; simp at this; omega
        go_wp2
        go_returns
        exact ⟨rfl, hB1⟩
  · rw [if_pos hy]
    have hy2 : ((y : Int) != 0) = true := by simpa using hy
    clear hy
    go_enter Try.func34, Try.ntmps34
    go_wp2_with fail
    refine (HC.out _ (by go_grown)).mono ?_
    rintro e w1 ⟨rfl, hb1⟩
    have hB1 : Below w.heap.size w w1 := below_trans (by go_grown) hb1
    have z1 : w.heap.size ≤ w1.heap.size := hB1.size
    go_wp2
    go_returns
    exact ⟨rfl, hB1⟩

set_option maxHeartbeats 2000000 in
theorem refRefine11_any (xs : List Int) (a : Option Addr) (cap : Nat) (c p : Int) (w : World) (hlen : xs.length ≤ cap) (hcap : cap ≤ 9223372036854775807) (hrd : Rd w a (Ints xs)) :
    Calls Try.prog 18 #[.agg #[.slice a xs.length cap], .int .i64 c, .int .i64 p] w fun e w' => e = .returned (.tuple #[.int .i64 (S11.refineR xs c p), .int .i64 (S11.usable xs c p)]) ∧ Below w.heap.size w w' := by
  have HU := Lib.hid fun W (hb : Below w.heap.size w W) => refRow11_any xs a cap c p W (by omega) (hrd.step hb)
  by_cases hu : S11.usable xs c p = 0
  · obtain ⟨k1, k2, k3, k4, k5⟩ := S11.usable_zero hu
    obtain ⟨q1, q2, q3, q4⟩ := S11.check_zero k1
    obtain ⟨c, rfl⟩ := Int.eq_ofNat_of_zero_le k2
    have e1 : S11.refineR xs c p = S11.refine xs c p := by unfold S11.refineR; rw [if_pos hu]; rfl
    rw [e1]
    rw [hu] at HU ⊢
    have hc33 : 33 * (c + 1) ≤ xs.length := by omega
    have hat := S11.at_le p
    have hfr := S11.from_bounds p
    have b1 := S11.getD_bounds q4 (i := 33 * c + S11.at p) (by omega)
    have b2 := S11.getD_bounds q4 (i := 33 * c + S11.at p + 1) (by omega)
    obtain ⟨g, o, rfl, hcs⟩ := hrd.at (i := 0) (by rw [Ints_length]; omega)
    have hx1 : w.cell? ⟨g, o + (33 * c + S11.at p), none⟩ = some (.int .i64 (xs.getD (33 * c + S11.at p) 0)) := by
      have := hcs (33 * c + S11.at p) (by rw [Ints_length]; omega)
      rw [this]
      simp [Ints, List.getD_eq_getElem?_getD, List.getElem?_eq_getElem (show 33 * c + S11.at p < xs.length by omega)]
    have hx2 : w.cell? ⟨g, o + (33 * c + S11.at p + 1), none⟩ = some (.int .i64 (xs.getD (33 * c + S11.at p + 1) 0)) := by
      have := hcs (33 * c + S11.at p + 1) (by rw [Ints_length]; omega)
      rw [this]
      simp [Ints, List.getD_eq_getElem?_getD, List.getElem?_eq_getElem (show 33 * c + S11.at p + 1 < xs.length by omega)]
    have hl1 := block_lt_of_cell hx1
    have HSt := Lib.hid fun W => refStretch06_any p W
    have hrf : S11.refine xs c p = S11.clamp (S11.mix (xs.getD (33 * c + S11.at p) 0) (xs.getD (33 * c + S11.at p + 1) 0) (S11.from p)) := rfl
    rw [hrf]
    have hsx := S11.x_bounds p
    have hai := S11.at_int p
    have hfi : (S06.stretch p + 3072) % 192 = S11.from p := rfl
    clear hcs hrf hrd k1 q1 q4 hu e1
    generalize S06.stretch p = st at *
    generalize xs.getD (33 * c + S11.at p) 0 = u at *
    generalize xs.getD (33 * c + S11.at p + 1) 0 = v at *
    generalize S11.at p = at' at *
    generalize S11.from p = f at *
    generalize xs.length = n at *
    obtain ⟨hu, hu'⟩ := b1
    obtain ⟨hv, hv'⟩ := b2
    obtain ⟨hf, hf'⟩ := hfr
    obtain ⟨m1, m2⟩ := S11.mul_bounds hu hu' (show 0 ≤ 192 - f by omega) (by omega)
    obtain ⟨m3, m4⟩ := S11.mul_bounds hv hv' hf (by omega)
    have hm : S11.mix u v f = (u * (192 - f) + v * f) / 192 := rfl
    have hcl : ∀ n : Int, S11.clamp n = max 1 (min (n / 16) 4095) := fun n => rfl
    have Hm := Lib.hid hm
    have Hcl := Lib.hid hcl
    clear hm hcl
    go_enter Try.func18, Try.ntmps18
    go_wp2_with fail
    refine (HU.out _ (by go_grown)).mono ?_
    rintro e w1 ⟨rfl, hb1⟩
    have hB1 : Below w.heap.size w w1 := below_trans (by go_grown) hb1
    have z1 : w.heap.size ≤ w1.heap.size := hB1.size
    have k5 : w1.cell? ⟨w.heap.size, 0, none⟩ = some (.slice (some ⟨g, o, none⟩) n cap) := (hb1.cell (by simp <;> omega)).trans (by go_simp)
    have hs1 : w.heap.size < w1.heap.size := by have := hb1.size; simp at this; omega
    go_wp2_with fail
    refine (HSt.out _).mono ?_
    rintro e w2 ⟨rfl, hb2⟩
    have hB2 : Below w.heap.size w w2 := below_trans (by go_grown) hb2
    have z2 : w.heap.size ≤ w2.heap.size := hB2.size
    have k6 : w2.cell? ⟨w.heap.size, 0, none⟩ = some (.slice (some ⟨g, o, none⟩) n cap) := (hb2.cell (by simp <;> omega)).trans (by go_simp)
    have hx12 : w2.cell? ⟨g, o + (33 * c + at'), none⟩ = some (.int .i64 u) := (hB2.cell hl1).trans hx1
    have hx22 : w2.cell? ⟨g, o + (33 * c + at' + 1), none⟩ = some (.int .i64 v) := (hB2.cell (p := ⟨g, o + (33 * c + at' + 1), none⟩) hl1).trans hx2
    go_wp2
    have w1' : IntKind.i64.wrap (192 - f) = 192 - f := IntWalk.i64_in _ (by omega)
    have w2' : IntKind.i64.wrap (u * (192 - f)) = u * (192 - f) := IntWalk.i64_in _ (by omega)
    have w3' : IntKind.i64.wrap (v * f) = v * f := IntWalk.i64_in _ (by omega)
    have w4' : IntKind.i64.wrap (u * (192 - f) + v * f) = u * (192 - f) + v * f := IntWalk.i64_in _ (by omega)
    have w5' : (u * (192 - f) + v * f).tdiv 192 = (u * (192 - f) + v * f) / 192 := Int.tdiv_eq_ediv_of_nonneg (by omega)
    have w6' : IntKind.i64.wrap ((u * (192 - f) + v * f) / 192) = (u * (192 - f) + v * f) / 192 := IntWalk.i64_in _ (by omega)
    have w7' : IntKind.i64.wrap (33 * (c : Int) + (at' : Int) + 1) = 33 * (c : Int) + (at' : Int) + 1 := IntWalk.i64_in _ (by omega)
    have w8' : (33 * (c : Int) + (at' : Int) + 1).toNat = 33 * c + at' + 1 := by omega
    have w9' : (33 * (c : Int) + (at' : Int)).toNat = 33 * c + at' := by omega
    have i1 : 33 * (c : Int) + (at' : Int) < n := by omega
    have i2 : (0 : Int) ≤ 33 * (c : Int) + (at' : Int) := by omega
    have i3 : 33 * (c : Int) + (at' : Int) + 1 < n := by omega
    have i4 : (0 : Int) ≤ 33 * (c : Int) + (at' : Int) + 1 := by omega
    have i5 : 33 * c + at' < n := by omega
    have i6 : 33 * c + at' + 1 < n := by omega
    refine wp_region_all 19 (Keeps w2 [(⟨w.heap.size, 0, none⟩, .slice (some ⟨g, o, none⟩) n cap), (⟨g, o + (33 * c + at'), none⟩, .int .i64 u), (⟨g, o + (33 * c + at' + 1), none⟩, .int .i64 v)]) (by kernel_rfl) rfl (by kernel_rfl) (Keeps.start (by simp only [Cells]; refine ⟨?_, ?_, ?_, trivial⟩ <;> go_simp)) (fun Y F hY hF => ?_)
    repeat
      apply wpSteady_value (by first | rfl | (rw [hY]; rfl))
      · intro w2 ⟨hB2, hk2⟩
        simp only [Cells] at hk2
        go_simp
        with_reducible rfl
      simp only [Act.put, List.setIfInBounds_toArray, List.set_cons_zero, List.set_cons_succ]
    refine hF.out _ (fun w4 hS4 => ?_)
    clear hF hY w1' w2' w3' w4' w5' w6' w7' w8' w9'
    have hB4 : Below w.heap.size w w4 := below_trans (by go_grown) hS4.1
    clear hS4
    go_wp2
    go_returns
    exact ⟨by rw [Hcl.out, Hm.out]; rfl, hB4⟩
  · have e1 : S11.refineR xs c p = 0 := by unfold S11.refineR; rw [if_neg hu]
    have hu2 : ((S11.usable xs c p : Int) != 0) = true := by simpa using hu
    rw [e1]
    clear hu e1 hrd
    generalize S11.usable xs c p = y at *
    generalize xs.length = n at *
    go_enter Try.func18, Try.ntmps18
    go_wp2_with fail
    refine (HU.out _ (by go_grown)).mono ?_
    rintro e w1 ⟨rfl, hb1⟩
    have hB1 : Below w.heap.size w w1 := below_trans (by go_grown) hb1
    have z1 : w.heap.size ≤ w1.heap.size := hB1.size
    go_wp2
    go_returns
    exact ⟨rfl, hB1⟩
end Go.Proofs.Ytojdbhcgppcgkaa
