/- What Refine (layer 11) returns. No condition. -/
import Derived.Test.YtojdbhcgppcgkaaW11a
import Derived.Test.YtojdbhcgppcgkaaBase7
set_option linter.unusedSimpArgs false
set_option linter.unusedVariables false
set_option linter.unusedSectionVars false
namespace Go.Proofs.Ytojdbhcgppcgkaa
open Go.RowKit

set_option maxHeartbeats 400000 in
theorem placed11_any (p : Int) (w : World) : Calls Try.prog 33 #[.int .i64 p] w fun e w' => e = .returned (.agg #[.int .i64 (S11.at p), .int .i64 (S11.from p)]) ∧ Below w.heap.size w w' := by
  have HS := Lib.hid fun W => stretch06_any p W
  have hx := S11.x_bounds p
  have ha := Lib.hid (S11.at_int p)
  have hf : S11.from p = (S06.stretch p + 3072) % 192 := rfl
  rw [hf, ← ha.out]
  clear hf ha
  generalize S06.stretch p = s at *
  go_enter Try.func33, Try.ntmps33
  go_wp2_with fail
  refine (HS.out _).mono ?_
  rintro e w1 ⟨rfl, hb1⟩
  have hB1 : Below w.heap.size w w1 := below_trans (by go_grown) hb1
  have z1 : w.heap.size ≤ w1.heap.size := hB1.size
  have hs1 : w.heap.size < w1.heap.size := by have := hb1.size; simp at this; omega
  have hb := (Blk.new w [.int .i64 0, .int .i64 0] 68).step hb1
  have f0 := hb.free 0
  have f1 := hb.free 1
  have c0 := hb.cell 0
  have c1 := hb.cell 1
  have g0 := (hb.set 0 (.int .i64 ((s + 3072) / 192))).cell 0
  have g1 := ((hb.set 0 (.int .i64 ((s + 3072) / 192))).set 1 (.int .i64 ((s + 3072) % 192))).cell 1
  simp only [List.set_cons_zero, List.set_cons_succ, List.getElem?_cons_zero, List.getElem?_cons_succ] at c0 c1 g0 g1
  clear hb
  go_wp2
  refine bodyPost_ret (v := .agg #[.int .i64 ((s + 3072) / 192), .int .i64 ((s + 3072) % 192)]) (by simp [results, Try.results33, go_sem, g0, g1]) rfl ⟨rfl, ?_⟩
  go_grown

set_option maxHeartbeats 400000 in
theorem rows11_any (n cap c b o : Nat) (w : World) (h1 : 33 * (c + 1) ≤ n) (h2 : n ≤ cap) (h3 : cap ≤ 9223372036854775807) :
    Calls Try.prog 31 #[.agg #[.slice (some ⟨b, o, none⟩) n cap], .int .i64 c] w fun e w' => e = .returned (.slice (some ⟨b, o + 33 * c, none⟩) 33 33) ∧ Below w.heap.size w w' := by
  go_enter Try.func31, Try.ntmps31
  go_wp2
  go_returns
  exact ⟨by rw [show 33 * (c + 1) - 33 * c = 33 by omega]; rfl, by go_grown⟩

theorem S11.mul_bounds {u f : Int} (h1 : 0 ≤ u) (h2 : u ≤ 65535) (h3 : 0 ≤ f) (h4 : f ≤ 192) : 0 ≤ u * f ∧ u * f ≤ 12582720 := by
  refine ⟨Int.mul_nonneg h1 h3, ?_⟩
  have := Int.mul_le_mul h2 h4 h3 (by omega)
  omega

set_option maxHeartbeats 1000000 in
theorem refined11_any (at' : Nat) (f u v : Int) (b o : Nat) (w : World) (ha : at' ≤ 31) (hf : 0 ≤ f) (hf' : f ≤ 191) (hu : 0 ≤ u) (hu' : u ≤ 65535) (hv : 0 ≤ v) (hv' : v ≤ 65535)
    (hc1 : w.cell? ⟨b, o + at', none⟩ = some (.int .i64 u)) (hc2 : w.cell? ⟨b, o + (at' + 1), none⟩ = some (.int .i64 v)) :
    Calls Try.prog 32 #[.slice (some ⟨b, o, none⟩) 33 33, .agg #[.int .i64 at', .int .i64 f]] w fun e w' => e = .returned (.int .i64 (S11.clamp (S11.mix u v f))) ∧ Below w.heap.size w w' := by
  obtain ⟨m1, m2⟩ := S11.mul_bounds hu hu' (show 0 ≤ 192 - f by omega) (by omega)
  obtain ⟨m3, m4⟩ := S11.mul_bounds hv hv' hf (by omega)
  have w1 : IntKind.i64.wrap (192 - f) = 192 - f := IntWalk.i64_in _ (by omega)
  have w2 : IntKind.i64.wrap (u * (192 - f)) = u * (192 - f) := IntWalk.i64_in _ (by omega)
  have w3 : IntKind.i64.wrap (v * f) = v * f := IntWalk.i64_in _ (by omega)
  have w4 : IntKind.i64.wrap (u * (192 - f) + v * f) = u * (192 - f) + v * f := IntWalk.i64_in _ (by omega)
  have w5 : (u * (192 - f) + v * f).tdiv 192 = (u * (192 - f) + v * f) / 192 := Int.tdiv_eq_ediv_of_nonneg (by omega)
  have w6 : IntKind.i64.wrap ((u * (192 - f) + v * f) / 192) = (u * (192 - f) + v * f) / 192 := IntWalk.i64_in _ (by omega)
  have w7 : IntKind.i64.wrap ((at' : Int) + 1) = (at' : Int) + 1 := IntWalk.i64_in _ (by omega)
  have w8 : ((at' : Int) + 1).toNat = at' + 1 := by omega
  have i1 : (at' : Int) < 33 := by omega
  have i2 : (0 : Int) ≤ (at' : Int) + 1 := by omega
  have i3 : (at' : Int) + 1 < 33 := by omega
  have i4 : at' < 33 := by omega
  have i5 : at' + 1 < 33 := by omega
  have i6 : (0 : Int) ≤ (at' : Int) := by omega
  have hl1 := block_lt_of_cell hc1
  go_enter Try.func32, Try.ntmps32
  go_wp2
  refine wp_region_all 21 (Keeps (w.alloc (Obj.cells #[.int .i64 at', .int .i64 f] 68)) [(⟨w.heap.size, 0, none⟩, .int .i64 at'), (⟨w.heap.size, 1, none⟩, .int .i64 f), (⟨b, o + at', none⟩, .int .i64 u), (⟨b, o + (at' + 1), none⟩, .int .i64 v)]) (by kernel_rfl) rfl (by kernel_rfl) (Keeps.start (by simp only [Cells]; refine ⟨?_, ?_, ?_, ?_, trivial⟩ <;> go_simp)) (fun Y F hY hF => ?_)
  repeat
    apply wpSteady_value (by first | rfl | (rw [hY]; rfl))
    · intro w2 ⟨hB2, hk2⟩
      simp only [Cells] at hk2
      go_simp
      with_reducible rfl
    simp only [Act.put, List.setIfInBounds_toArray, List.set_cons_zero, List.set_cons_succ]
  refine hF.out _ (fun w4 hS4 => ?_)
  clear hF hY
  have hB4 : Below w.heap.size w w4 := below_trans (by go_grown) hS4.1
  clear hS4
  have hm : S11.mix u v f = (u * (192 - f) + v * f) / 192 := rfl
  have hcl : ∀ n : Int, S11.clamp n = min (max (n / 16) 1) 4095 := fun n => by unfold S11.clamp; omega
  have Hm := Lib.hid hm
  have Hcl := Lib.hid hcl
  clear hm hcl
  go_wp2
  go_returns
  exact ⟨ret_i64 (by rw [Hcl.out, Hm.out]), hB4⟩

theorem S11.getD_bounds {xs : List Int} (h : xs.any S11.bad = false) {i : Nat} (hi : i < xs.length) : 0 ≤ xs.getD i 0 ∧ xs.getD i 0 ≤ 65535 := by
  rw [List.any_eq_false] at h
  have := h xs[i] (List.getElem_mem hi)
  simp [S11.bad] at this
  rw [List.getD_eq_getElem?_getD, List.getElem?_eq_getElem hi]
  simp
  omega
theorem S11.check_zero {xs : List Int} (h : S11.check xs = 0) : xs.length % 33 = 0 ∧ 33 ≤ xs.length ∧ xs.length ≤ 2162688 ∧ xs.any S11.bad = false := by
  by_cases hl : xs.length % 33 ≠ 0 ∨ xs.length < 33 ∨ 2162688 < xs.length
  · rw [S11.check_long hl] at h; omega
  · rw [S11.check_fit hl] at h
    refine ⟨by omega, by omega, by omega, ?_⟩
    cases hb : xs.any S11.bad with
    | false => rfl
    | true => rw [hb] at h; simp at h
theorem S11.usable_zero {xs : List Int} {c p : Int} (h : S11.usable xs c p = 0) : S11.check xs = 0 ∧ 0 ≤ c ∧ c < (xs.length / 33 : Nat) ∧ 1 ≤ p ∧ p ≤ 4095 := by
  unfold S11.usable at h
  split at h
  · omega
  · split at h
    · omega
    · split at h
      · omega
      · omega

/-- What Refine returns: the probability, the error. -/
def S11.refineR (xs : List Int) (c p : Int) : Int := if S11.usable xs c p = 0 then S11.refine xs c.toNat p else 0

set_option maxHeartbeats 1000000 in
theorem refine11_any (xs : List Int) (a : Option Addr) (cap : Nat) (c p : Int) (w : World) (hlen : xs.length ≤ cap) (hcap : cap ≤ 9223372036854775807) (hrd : Rd w a (Ints xs)) :
    Calls Try.prog 17 #[.agg #[.slice a xs.length cap], .int .i64 c, .int .i64 p] w fun e w' => e = .returned (.tuple #[.int .i64 (S11.refineR xs c p), .int .i64 (S11.usable xs c p)]) ∧ Below w.heap.size w w' := by
  have HU := Lib.hid fun W (hb : Below w.heap.size w W) => usable11_any xs a cap c p W (by omega) (hrd.step hb)
  by_cases hu : S11.usable xs c p = 0
  · obtain ⟨k1, k2, k3, k4, k5⟩ := S11.usable_zero hu
    obtain ⟨q1, q2, q3, q4⟩ := S11.check_zero k1
    obtain ⟨c, rfl⟩ := Int.eq_ofNat_of_zero_le k2
    have e1 : S11.refineR xs c p = S11.refine xs c p := by unfold S11.refineR; rw [if_pos hu]; rfl
    rw [e1]
    rw [hu] at HU ⊢
    have hc33 : 33 * (c + 1) ≤ xs.length := by omega
    have hat := S11.at_le p
    have hfr := S11.from_bounds p
    have b1 := S11.getD_bounds q4 (i := 33 * c + S11.at p) (by omega)
    have b2 := S11.getD_bounds q4 (i := 33 * c + S11.at p + 1) (by omega)
    obtain ⟨g, o, rfl, hcs⟩ := hrd.at (i := 0) (by rw [Ints_length]; omega)
    have hx1 : w.cell? ⟨g, o + 33 * c + S11.at p, none⟩ = some (.int .i64 (xs.getD (33 * c + S11.at p) 0)) := by
      have := hcs (33 * c + S11.at p) (by rw [Ints_length]; omega)
      rw [Nat.add_assoc, this]
      simp [Ints, List.getD_eq_getElem?_getD, List.getElem?_eq_getElem (show 33 * c + S11.at p < xs.length by omega)]
    have hx2 : w.cell? ⟨g, o + 33 * c + (S11.at p + 1), none⟩ = some (.int .i64 (xs.getD (33 * c + S11.at p + 1) 0)) := by
      have := hcs (33 * c + (S11.at p + 1)) (by rw [Ints_length]; omega)
      rw [Nat.add_assoc, this]
      simp [Ints, List.getD_eq_getElem?_getD, ← Nat.add_assoc, List.getElem?_eq_getElem (show 33 * c + S11.at p + 1 < xs.length by omega)]
    have HRf := Lib.hid fun W (hb : Below w.heap.size w W) => refined11_any (S11.at p) (S11.from p) _ _ g (o + 33 * c) W hat hfr.1 hfr.2 b1.1 b1.2 b2.1 b2.2 ((hb.cell (block_lt_of_cell hx1)).trans hx1) ((hb.cell (block_lt_of_cell hx2)).trans hx2)
    have HPl := Lib.hid fun W => placed11_any p W
    have hrf : S11.refine xs c p = S11.clamp (S11.mix (xs.getD (33 * c + S11.at p) 0) (xs.getD (33 * c + S11.at p + 1) 0) (S11.from p)) := rfl
    rw [hrf]
    have HRw := Lib.hid fun W => rows11_any xs.length cap c g o W hc33 hlen hcap
    clear hx1 hx2 hcs b1 b2 hrf hrd k1 q1 q4 hu e1
    generalize S11.clamp (S11.mix (xs.getD (33 * c + S11.at p) 0) (xs.getD (33 * c + S11.at p + 1) 0) (S11.from p)) = r at *
    generalize S11.at p = at' at *
    generalize S11.from p = f at *
    generalize xs.length = n at *
    go_enter Try.func17, Try.ntmps17
    go_wp2_with fail
    refine (HU.out _ (by go_grown)).mono ?_
    rintro e w1 ⟨rfl, hb1⟩
    have hB1 : Below w.heap.size w w1 := below_trans (by go_grown) hb1
    have z1 : w.heap.size ≤ w1.heap.size := hB1.size
    have k1 : w1.cell? ⟨w.heap.size, 0, none⟩ = some (.slice (some ⟨g, o, none⟩) n cap) := (hb1.cell (by simp <;> omega)).trans (by go_simp)
    have hs1 : w.heap.size < w1.heap.size := by have := hb1.size; simp at this; omega
    go_wp2_with fail
    refine (HRw.out _).mono ?_
    rintro e w2 ⟨rfl, hb2⟩
    have hB2 : Below w.heap.size w w2 := below_trans (by go_grown) hb2
    have z2 : w.heap.size ≤ w2.heap.size := hB2.size
    go_wp2_with fail
    refine (HPl.out _).mono ?_
    rintro e w3 ⟨rfl, hb3⟩
    have hB3 : Below w.heap.size w w3 := below_trans (by go_grown) hb3
    have z3 : w.heap.size ≤ w3.heap.size := hB3.size
    go_wp2_with fail
    refine (HRf.out _ hB3).mono ?_
    rintro e w4 ⟨rfl, hb4⟩
    have hB4 : Below w.heap.size w w4 := below_trans (by go_grown) hb4
    have z4 : w.heap.size ≤ w4.heap.size := hB4.size
    go_wp2
    go_returns
    exact ⟨rfl, hB4⟩
  · have e1 : S11.refineR xs c p = 0 := by unfold S11.refineR; rw [if_neg hu]
    have hu2 : ((S11.usable xs c p : Int) != 0) = true := by simpa using hu
    rw [e1]
    clear hu e1 hrd
    generalize S11.usable xs c p = y at *
    generalize xs.length = n at *
    go_enter Try.func17, Try.ntmps17
    go_wp2_with fail
    refine (HU.out _ (by go_grown)).mono ?_
    rintro e w1 ⟨rfl, hb1⟩
    have hB1 : Below w.heap.size w w1 := below_trans (by go_grown) hb1
    have z1 : w.heap.size ≤ w1.heap.size := hB1.size
    go_wp2
    go_returns
    exact ⟨rfl, hB1⟩
end Go.Proofs.Ytojdbhcgppcgkaa
