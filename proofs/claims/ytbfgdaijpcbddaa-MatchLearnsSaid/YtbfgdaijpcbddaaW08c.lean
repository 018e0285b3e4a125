/- What the functions of layer 8 (counter) do: moving a counter, and updating it. No condition. -/
import Derived.Test.YtbfgdaijpcbddaaW08a
import Derived.Test.YtbfgdaijpcbddaaW08b
set_option linter.unusedSimpArgs false
set_option linter.unusedVariables false
set_option linter.unusedSectionVars false
namespace Go.Proofs.Ytbfgdaijpcbddaa
open Go.RowKit

theorem S08.towards_bounds {p n target : Int} (hp : 0 ≤ p) (hp' : p ≤ 65535) (hn : 0 ≤ n) (ht : 0 ≤ target) (ht' : target ≤ 65535) : 0 ≤ S08.towards p n target ∧ S08.towards p n target ≤ 65535 := by
  obtain ⟨h1, h2⟩ := S08.tdiv_bounds (2 * (target - p)) (2 * n + 3) (by omega)
  unfold S08.towards
  generalize hq : (2 * (target - p)).tdiv (2 * n + 3) = q at *
  rcases Int.le_total 0 (2 * (target - p)) with h | h
  · obtain ⟨h3, h4⟩ := h1 h
    have : q * 3 ≤ q * (2 * n + 3) := Int.mul_le_mul_of_nonneg_left (by omega) h3
    omega
  · obtain ⟨h3, h4⟩ := h2 h
    have : q * (2 * n + 3) ≤ q * 3 := Int.mul_le_mul_of_nonpos_left h3 (by omega)
    omega

def keepsCtr (b : Nat) (p n : Int) (w0 : World) (w : World) : Prop := Below w0.heap.size w0 w ∧ w.cell? ⟨b, 0, none⟩ = some (.int .i64 p) ∧ w.cell? ⟨b, 1, none⟩ = some (.int .i64 n)

set_option maxHeartbeats 400000 in
theorem towards_any (p n target : Int) (b : Nat) (w : World) (hp0 : 0 ≤ p) (hp1 : p ≤ 65535) (hn0 : 0 ≤ n) (hn1 : n ≤ 1023) (ht0 : 0 ≤ target) (ht1 : target ≤ 65535)
    (hc0 : w.cell? ⟨b, 0, none⟩ = some (.int .i64 p)) (hc1 : w.cell? ⟨b, 1, none⟩ = some (.int .i64 n)) (hf : w.frozen? ⟨b, 0, none⟩ = false) :
    Calls Try.prog 71 #[.pointer (some ⟨b, 0, none⟩), .int .i64 target] w fun e w' =>
      e = .returned (.tuple #[]) ∧ ∃ w1, Below w.heap.size w w1 ∧ w' = w1.setCell ⟨b, 0, none⟩ (.int .i64 (S08.towards p n target)) := by
  go_enter Try.func71, Try.ntmps71
  refine wp_region_steady 22 4 _ _ (keepsCtr b p n w) (by kernel_rfl) (List.take_append_drop 22 _).symm rfl rfl (by kernel_rfl) ⟨(Below.refl _ _).drew, hc0, hc1⟩ (fun Y F hY hF => ?_)
  simp only [List.take_succ_cons, List.take_zero, List.drop_succ_cons, List.drop_zero]
  repeat
    apply wpSteady_value (by rfl)
    · intro w2 ⟨hB2, hS0, hS1⟩
      go_simp
      with_reducible rfl
    simp only [Act.put, List.setIfInBounds_toArray, List.set_cons_zero, List.set_cons_succ]
  refine wpSteady_call (v := .agg (S08.divs 1024)) (f := 73) (args := #[]) (by rfl) ?h ?c ?r
  case h => (intro w2 _; kernel_rfl)
  case c =>
    rintro w2 ⟨hB2, hS0, hS1⟩
    refine (divisors_any w2).mono ?_
    rintro e w3 ⟨rfl, hB3⟩
    have hlt0 := block_lt_of_cell hS0
    exact ⟨rfl, hB2.trans (hB3.mono hB2.size), by rw [hB3.cell hlt0]; exact hS0, by rw [hB3.cell (p := ⟨b, 1, none⟩) hlt0]; exact hS1⟩
  simp only [Act.put, List.setIfInBounds_toArray, List.set_cons_zero, List.set_cons_succ]
  have hix := S08.divs_index n hn0 hn1
  have hd0 : ¬ (2 * n + 3 = 0) := by omega
  repeat
    apply wpSteady_value (by rfl)
    · intro w2 ⟨hB2, hS0, hS1⟩
      go_simp
      with_reducible rfl
    simp only [Act.put, List.setIfInBounds_toArray, List.set_cons_zero, List.set_cons_succ]
  refine hF.out _ (fun K w' hK hS' => ?_)
  obtain ⟨hB, hS0, hS1⟩ := hS'
  have hf' : w'.frozen? ⟨b, 0, none⟩ = false := by rw [hB.frozen (p := ⟨b, 0, none⟩) (block_lt_of_cell hc0)]; exact hf
  go_wp2_with fail
  refine OnlyK.mk (hK.out _ _ ?_)
  go_returns
  have hb := S08.towards_bounds hp0 hp1 hn0 ht0 ht1
  unfold S08.towards at hb ⊢
  exact ⟨rfl, w', hB, congrArg (fun x => w'.setCell ⟨b, 0, none⟩ (.int .i64 x)) (IntWalk.wrap64_in _ ⟨by omega, by omega⟩)⟩

set_option maxHeartbeats 400000 in
theorem zero_any (p n : Int) (b : Nat) (w : World) (hp0 : 0 ≤ p) (hp1 : p ≤ 65535) (hn0 : 0 ≤ n) (hn1 : n ≤ 1023)
    (hc0 : w.cell? ⟨b, 0, none⟩ = some (.int .i64 p)) (hc1 : w.cell? ⟨b, 1, none⟩ = some (.int .i64 n)) (hf : w.frozen? ⟨b, 0, none⟩ = false) :
    Calls Try.prog 65 #[.pointer (some ⟨b, 0, none⟩)] w fun e w' =>
      e = .returned (.tuple #[]) ∧ ∃ w1, Below w.heap.size w w1 ∧ w' = w1.setCell ⟨b, 0, none⟩ (.int .i64 (S08.towards p n 0)) := by
  go_enter Try.func65, Try.ntmps65
  go_wp2_with (go_at_call 71; refine (towards_any p n 0 b _ hp0 hp1 hn0 hn1 (by omega) (by omega) hc0 hc1 hf).mono ?_; rintro e w' ⟨rfl, hw⟩)
  go_returns
  exact ⟨rfl, hw⟩

set_option maxHeartbeats 400000 in
theorem rise_any (p n : Int) (b : Nat) (w : World) (hp0 : 0 ≤ p) (hp1 : p ≤ 65535) (hn0 : 0 ≤ n) (hn1 : n ≤ 1023)
    (hc0 : w.cell? ⟨b, 0, none⟩ = some (.int .i64 p)) (hc1 : w.cell? ⟨b, 1, none⟩ = some (.int .i64 n)) (hf : w.frozen? ⟨b, 0, none⟩ = false) :
    Calls Try.prog 66 #[.pointer (some ⟨b, 0, none⟩)] w fun e w' =>
      e = .returned (.tuple #[]) ∧ ∃ w1, Below w.heap.size w w1 ∧ w' = w1.setCell ⟨b, 0, none⟩ (.int .i64 (S08.towards p n 65535)) := by
  go_enter Try.func66, Try.ntmps66
  go_wp2_with (go_at_call 71; refine (towards_any p n 65535 b _ hp0 hp1 hn0 hn1 (by omega) (by omega) hc0 hc1 hf).mono ?_; rintro e w' ⟨rfl, hw⟩)
  go_returns
  exact ⟨rfl, hw⟩

end Go.Proofs.Ytbfgdaijpcbddaa
