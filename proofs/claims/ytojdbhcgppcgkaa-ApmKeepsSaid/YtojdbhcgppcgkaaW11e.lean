/- A step of learning, and Update (layer 11). No condition. -/
import Derived.Test.YtojdbhcgppcgkaaW11d
set_option linter.unusedSimpArgs false
set_option linter.unusedVariables false
set_option linter.unusedSectionVars false
namespace Go.Proofs.Ytojdbhcgppcgkaa
open Go.RowKit

/-- What is added fits, and what is learned is a probability again. -/
theorem S11.learn_facts {u bit rate share : Int} (hu : 0 ≤ u) (hu' : u ≤ 65535) (hb : bit = 0 ∨ bit = 1) (hr : 0 ≤ rate) (hr' : rate ≤ 255) (hs : 0 ≤ share) (hs' : share ≤ 192) :
    -16711425 ≤ (65535 * bit - u) * rate ∧ (65535 * bit - u) * rate ≤ 16711425 ∧ -3208593600 ≤ (65535 * bit - u) * rate * share ∧ (65535 * bit - u) * rate * share ≤ 3208593600 ∧
    0 ≤ S11.learn u bit rate share ∧ S11.learn u bit rate share ≤ 65535 := by
  obtain ⟨d, hd⟩ : ∃ d, d = 65535 * bit - u := ⟨_, rfl⟩
  obtain ⟨k, hk⟩ : ∃ k, k = rate * share := ⟨_, rfl⟩
  have hk0 : 0 ≤ k := by rw [hk]; exact Int.mul_nonneg hr hs
  have hk1 : k ≤ 48960 := by
    rw [hk]
    have := Int.mul_le_mul hr' hs' hs (by omega)
    omega
  have e : (65535 * bit - u) * rate * share = d * k := by rw [← hd, hk, Int.mul_assoc]
  unfold S11.learn
  rw [e, ← hd]
  have hb2 : (bit = 0 ∧ d = -u) ∨ (bit = 1 ∧ d = 65535 - u) := by
    rcases hb with rfl | rfl
    · left; exact ⟨rfl, by omega⟩
    · right; exact ⟨rfl, by omega⟩
  have key : ∀ (x y Y : Int), 0 ≤ x → x ≤ 65535 → 0 ≤ y → y ≤ Y → 0 ≤ x * y ∧ x * y ≤ 65535 * Y := fun x y Y h1 h2 h3 h4 =>
    ⟨Int.mul_nonneg h1 h3, Int.mul_le_mul h2 h4 h3 (by omega)⟩
  rcases hb2 with ⟨_, h⟩ | ⟨_, h⟩
  · have k1 := key u rate 255 hu hu' hr hr'
    have k2 := key u k 48960 hu hu' hk0 hk1
    have k3 : u * k ≤ u * 48960 := Int.mul_le_mul_of_nonneg_left hk1 hu
    have e1 : d * rate = -(u * rate) := by rw [h, Int.neg_mul]
    have e2 : d * k = -(u * k) := by rw [h, Int.neg_mul]
    rw [e1, e2, Int.neg_tdiv, Int.tdiv_eq_ediv_of_nonneg k2.1]
    omega
  · have k1 := key d rate 255 (by omega) (by omega) hr hr'
    have k2 := key d k 48960 (by omega) (by omega) hk0 hk1
    have k3 : d * k ≤ d * 48960 := Int.mul_le_mul_of_nonneg_left hk1 (by omega)
    rw [Int.tdiv_eq_ediv_of_nonneg k2.1]
    omega

set_option maxHeartbeats 1000000 in
theorem learn11_any (k : Nat) (u bit rate share : Int) (b o : Nat) (w : World) (hk : k ≤ 32) (hu : 0 ≤ u) (hu' : u ≤ 65535) (hb : bit = 0 ∨ bit = 1) (hr : 0 ≤ rate) (hr' : rate ≤ 255) (hs : 0 ≤ share) (hs' : share ≤ 192)
    (hc : w.cell? ⟨b, o + k, none⟩ = some (.int .i64 u)) (hf : w.frozen? ⟨b, o + k, none⟩ = false) :
    Calls Try.prog 37 #[.slice (some ⟨b, o, none⟩) 33 33, .int .i64 k, .int .i64 bit, .int .i64 rate, .int .i64 share] w fun e w' =>
      e = .returned (.tuple #[]) ∧ ∃ w1, Below w.heap.size w w1 ∧ w' = w1.setCell ⟨b, o + k, none⟩ (.int .i64 (S11.learn u bit rate share)) := by
  obtain ⟨f1, f2, f3, f4, f5, f6⟩ := S11.learn_facts hu hu' hb hr hr' hs hs'
  have hb0 : 0 ≤ bit ∧ bit ≤ 1 := by omega
  have w1' : IntKind.i64.wrap (65535 * bit) = 65535 * bit := IntWalk.i64_in _ (by omega)
  have w2' : IntKind.i64.wrap (65535 * bit - u) = 65535 * bit - u := IntWalk.i64_in _ (by omega)
  have w3' : IntKind.i64.wrap ((65535 * bit - u) * rate) = (65535 * bit - u) * rate := IntWalk.i64_in _ (by omega)
  have w4' : IntKind.i64.wrap ((65535 * bit - u) * rate * share) = (65535 * bit - u) * rate * share := IntWalk.i64_in _ (by omega)
  have hlr : u + ((65535 * bit - u) * rate * share).tdiv 49152 = S11.learn u bit rate share := rfl
  obtain ⟨q, hq⟩ : ∃ q, q = ((65535 * bit - u) * rate * share).tdiv 49152 := ⟨_, rfl⟩
  have hqs : u + q = S11.learn u bit rate share := by rw [hq]; exact hlr
  have w5' : IntKind.i64.wrap (((65535 * bit - u) * rate * share).tdiv 49152) = q := by rw [← hq]; exact IntWalk.i64_in _ (by omega)
  have w6' : IntKind.i64.wrap (u + q) = S11.learn u bit rate share := by rw [hqs]; exact IntWalk.i64_in _ (by omega)
  have i1 : (k : Int) < 33 := by omega
  have i2 : (0 : Int) ≤ (k : Int) := by omega
  have i3 : k < 33 := by omega
  have hl1 := block_lt_of_cell hc
  clear hlr hq hqs f1 f2 f3 f4
  generalize S11.learn u bit rate share = L at *
  go_enter Try.func37, Try.ntmps37
  refine wp_region_steady 17 2 _ _ (Keeps w [(⟨b, o + k, none⟩, .int .i64 u)]) (by kernel_rfl) (List.take_append_drop 17 _).symm rfl rfl (by kernel_rfl) (Keeps.start (by simp only [Cells]; exact ⟨hc, trivial⟩)) (fun Y F hY hF => ?_)
  simp only [List.take_succ_cons, List.take_zero, List.drop_succ_cons, List.drop_zero]
  repeat
    apply wpSteady_value (by first | rfl | (rw [hY]; rfl))
    · intro w2 ⟨hB2, hk2⟩
      simp only [Cells] at hk2
      go_simp
      with_reducible rfl
    simp only [Act.put, List.setIfInBounds_toArray, List.set_cons_zero, List.set_cons_succ]
  refine hF.out _ (fun K w' hK hS' => ?_)
  have hB' := hS'.1
  have hk2 := hS'.2
  simp only [Cells] at hk2
  have hf' : w'.frozen? ⟨b, o + k, none⟩ = false := by rw [hB'.frozen (p := ⟨b, o + k, none⟩) hl1]; exact hf
  clear hF hY hS' w1' w2' w3' w4' w5' w6'
  go_wp2_with fail
  refine OnlyK.mk (hK.out _ _ ?_)
  go_wp2
  go_returns
  exact ⟨rfl, w', hB', rfl⟩
end Go.Proofs.Ytojdbhcgppcgkaa
