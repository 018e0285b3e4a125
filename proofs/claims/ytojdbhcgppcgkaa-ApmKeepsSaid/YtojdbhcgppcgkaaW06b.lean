/- What Stretch of layer 6 (fixed) and of its reference return: the least evidence for a probability. No condition. -/
import Derived.Test.YtojdbhcgppcgkaaW06a
set_option linter.unusedSimpArgs false
set_option linter.unusedVariables false
set_option linter.unusedSectionVars false
namespace Go.Proofs.Ytojdbhcgppcgkaa
open Go.RowKit

set_option maxHeartbeats 400000 in
/-- sort.Search, at a test that says yes from k on. -/
theorem search_any (F : FuncId) (hF : ∀ args w, (callFunc F args).run Try.prog w = .ok (.enter F args) w) (caps : Array Value) (n k : Nat) (hn : n ≤ 1000000) (hk : k ≤ n) (Inv : World → Prop)
    (hv : ∀ (i : Nat) w, i < n → Inv w → Calls Try.prog F (#[.int .i64 i] ++ caps) w fun e w' => e = .returned (.bool (decide (k ≤ i))) ∧ Inv w') (w : World) (h0 : Inv w) :
    Calls Try.prog 41 #[.int .i64 n, .func (.func F) #[] caps] w fun e w' => e = .returned (.int .i64 k) ∧ Inv w' := by
  have Hv := Lib.hid hv
  clear hv
  go_enter Try.func41, Try.ntmps41
  go_wp2
  go_loopw [5, 6] (fun i j wr => ∃ a b : Nat, i = .int .i64 a ∧ j = .int .i64 b ∧ a ≤ k ∧ k ≤ b ∧ b ≤ n ∧ Inv wr) (fun i j _ => (intOf j).toNat - (intOf i).toNat)
  case atStart => exact ⟨0, n, rfl, rfl, by omega, hk, by omega, h0⟩
  case round =>
    obtain ⟨a, b, rfl, rfl, ha, hb, hbn, hi⟩ := hrel
    by_cases hlt : a < b
    · obtain ⟨m, hm⟩ : ∃ m, m = (a + b) / 2 := ⟨_, rfl⟩
      have hm1 : ((a : Int) + b) / 2 = (m : Int) := by omega
      have hm2 : a ≤ m := by omega
      have hm3 : m < b := by omega
      have hc := Hv.out m _ (by omega) hi
      have Hc := Lib.hid hc
      clear hc hm
      by_cases hkm : k ≤ m
      · rw [decide_eq_true hkm] at Hc
        go_wp2_with fail
        refine Hc.out.mono ?_
        rintro e w1 ⟨rfl, hi1⟩
        go_wp2
        go_roundw
        case rel => exact ⟨a, m, rfl, rfl, ha, hkm, by omega, hi1⟩
        case measure => simp [intOf]; omega
      · rw [decide_eq_false hkm] at Hc
        go_wp2_with fail
        refine Hc.out.mono ?_
        rintro e w1 ⟨rfl, hi1⟩
        go_wp2
        go_roundw
        case rel => exact ⟨m + 1, b, by go_num, rfl, by omega, hb, hbn, hi1⟩
        case measure => simp [intOf]; omega
    · obtain rfl : a = k := by omega
      go_wp2
      go_returns
      exact ⟨rfl, hi⟩

theorem enterStretch (args : Array Value) (w : World) : (callFunc 40 args).run Try.prog w = .ok (.enter 40 args) w := by kernel_rfl

set_option maxHeartbeats 400000 in
theorem stretchTest06 (i p : Int) (b : Bool) (bp : Nat) (w : World) (hi : 0 ≤ i) (hi' : i ≤ 10000) (hp : w.cell? ⟨bp, 0, none⟩ = some (.int .i64 p)) (hb : decide (p ≤ S06.squash (i - 3071)) = b) :
    Calls Try.prog 40 #[.int .i64 i, .pointer (some ⟨bp, 0, none⟩)] w fun e w' => e = .returned (.bool b) ∧ Below w.heap.size w w' := by
  have Hb := Lib.hid hb
  have HS := Lib.hid fun W => squash06_any (i - 3071) W
  generalize S06.squash (i - 3071) = q at *
  clear hb
  have hw : IntKind.i64.wrap (i - 3071) = i - 3071 := IntWalk.i64_in _ (by omega)
  go_enter Try.func40, Try.ntmps40
  go_wp2
  refine wp_region_all 6 (Keeps w [(⟨bp, 0, none⟩, .int .i64 p)]) (by kernel_rfl) rfl (by kernel_rfl) (Keeps.start (by simp only [Cells]; exact ⟨hp, trivial⟩)) (fun Y F hY hF => ?_)
  repeat
    apply wpSteady_value (by first | rfl | (rw [hY]; rfl))
    · intro w2 ⟨hB2, hk2⟩
      simp only [Cells] at hk2
      go_simp
      with_reducible rfl
    simp only [Act.put, List.setIfInBounds_toArray, List.set_cons_zero, List.set_cons_succ]
  apply wpSteady_call (by first | rfl | (rw [hY]; rfl))
  · intro w2 ⟨hB2, hk2⟩
    simp only [Cells] at hk2
    go_simp
    with_reducible exact ⟨rfl, rfl⟩
  · intro w2 hS2
    have hk2 := hS2.2
    simp only [Cells] at hk2
    refine (HS.out _).mono ?_
    rintro e w3 ⟨rfl, hb3⟩
    exact ⟨rfl, hS2.step hb3⟩
  simp only [Act.put, List.setIfInBounds_toArray, List.set_cons_zero, List.set_cons_succ]
  repeat
    apply wpSteady_value (by first | rfl | (rw [hY]; rfl))
    · intro w2 ⟨hB2, hk2⟩
      simp only [Cells] at hk2
      go_simp
      with_reducible rfl
    simp only [Act.put, List.setIfInBounds_toArray, List.set_cons_zero, List.set_cons_succ]
  refine hF.out _ (fun w4 hS4 => ?_)
  clear hF hY
  have hB4 : Below w.heap.size w w4 := hS4.1
  go_wp2
  go_returns
  exact ⟨ret_bool Hb.out, hB4⟩

set_option maxHeartbeats 400000 in
theorem stretch06_any (p : Int) (w : World) : Calls Try.prog 22 #[.int .i64 p] w fun e w' => e = .returned (.int .i64 (S06.stretch p)) ∧ Below w.heap.size w w' := by
  have HC := Lib.hid fun W => chance06_any p W
  have hcut := S06.spot_cuts p
  have hst : S06.stretch p = (S06.spot p : Int) - 3071 := rfl
  rw [hst]
  have hle := S06.spot_le p
  have HS : Hid (∀ W : World, W.cell? ⟨w.heap.size, 0, none⟩ = some (.int .i64 (S06.chance p)) → Calls Try.prog 41 #[.int .i64 6142, .func (.func 40) #[] #[.pointer (some ⟨w.heap.size, 0, none⟩)]] W
      fun e w' => e = .returned (.int .i64 (S06.spot p)) ∧ Below W.heap.size W w') := Lib.hid fun W hc => by
    refine (search_any 40 enterStretch _ 6142 (S06.spot p) (by omega) hle (fun w' => Below W.heap.size W w') (fun i w' hi hB => ?_) W (Below.refl _ _)).mono (fun e w' h => h)
    refine (stretchTest06 i (S06.chance p) (decide (S06.spot p ≤ i)) w.heap.size w' (by omega) (by omega) (by rw [hB.cell (block_lt_of_cell hc)]; exact hc) ?_).mono (fun e w2 ⟨h1, h2⟩ => ⟨h1, below_trans hB h2⟩)
    rw [decide_eq_decide]
    have := hcut.2 i hi
    omega
  generalize S06.spot p = k at *
  generalize S06.chance p = c at *
  clear hcut hst
  go_enter Try.func22, Try.ntmps22
  go_wp2_with fail
  refine (HC.out _).mono ?_
  rintro e w1 ⟨rfl, hb1⟩
  have hB1 : Below w.heap.size w w1 := below_trans (by go_grown) hb1
  have z1 : w.heap.size ≤ w1.heap.size := hB1.size
  have hs1 : w.heap.size < w1.heap.size := by have := hb1.size; simp at this; omega
  have k1 : w1.cell? ⟨w.heap.size, 0, none⟩ = some (.int .i64 p) := (hb1.cell (by simp <;> omega)).trans (by go_simp)
  have hf : w1.frozen? ⟨w.heap.size, 0, none⟩ = false := (hb1.frozen (p := ⟨w.heap.size, 0, none⟩) (by simp)).trans (by go_simp)
  have hc2 : (w1.setCell ⟨w.heap.size, 0, none⟩ (.int .i64 c)).cell? ⟨w.heap.size, 0, none⟩ = some (.int .i64 c) := (((Blk.new w [.int .i64 p] 3).step hb1).set 0 _).cell 0
  have HSS := Lib.hid (HS.out _ hc2)
  clear hc2
  go_wp2_with fail
  refine HSS.out.mono ?_
  rintro e w2 ⟨rfl, hb2⟩
  have hB2 : Below w.heap.size w w2 := below_trans (by go_grown) hb2
  go_wp2
  go_returns
  exact ⟨rfl, hB2⟩

/-! The reference. -/
set_option maxHeartbeats 400000 in
theorem refStretch06_any (p : Int) (w : World) : Calls Try.prog 35 #[.int .i64 p] w fun e w' => e = .returned (.int .i64 (S06.stretch p)) ∧ Below w.heap.size w w' := by
  have HC : Hid (∀ W : World, Calls Try.prog 46 #[.int .i64 p, .int .i64 1, .int .i64 4095] W fun e w' => e = .returned (.int .i64 (S06.chance p)) ∧ Below W.heap.size W w') := Lib.hid fun W => refBetween06_any p 1 4095 W
  have hcut := S06.spot_cuts p
  have hst : S06.stretch p = (S06.spot p : Int) - 3071 := rfl
  rw [hst]
  have hle := S06.spot_le p
  have hcp : S06.chance p ≤ 4095 := by unfold S06.chance; omega
  generalize S06.spot p = k at *
  generalize S06.chance p = c at *
  clear hst
  go_enter Try.func35, Try.ntmps35
  go_wp2_with fail
  refine (HC.out _).mono ?_
  rintro e w1 ⟨rfl, hb1⟩
  have hB1 : Below w.heap.size w w1 := below_trans (by go_grown) hb1
  have z1 : w.heap.size ≤ w1.heap.size := hB1.size
  go_wp2
  go_loopw [3, 4] (fun i j wr => ∃ a b : Nat, i = .int .i64 ((a : Int) - 3071) ∧ j = .int .i64 ((b : Int) - 3071) ∧ a ≤ k ∧ k ≤ b ∧ b ≤ 6142 ∧ Below w.heap.size w wr) (fun i j _ => (intOf j - intOf i).toNat)
  case atStart => exact ⟨0, 6142, rfl, rfl, by omega, hle, by omega, hB1⟩
  case round =>
    obtain ⟨a, b, rfl, rfl, ha, hb, hbn, hB⟩ := hrel
    by_cases hlt : a < b
    · have hlt2 : (a : Int) - 3071 < (b : Int) - 3071 := by omega
      obtain ⟨m, hm⟩ : ∃ m, m = (a + b) / 2 := ⟨_, rfl⟩
      have hm1 : (a : Int) - 3071 + ((b : Int) - 3071 - ((a : Int) - 3071)) / 2 = (m : Int) - 3071 := by omega
      have hm2 : a ≤ m := by omega
      have hm3 : m < b := by omega
      have HS := Lib.hid fun W => refSquash06_any ((m : Int) - 3071) W
      have hcm := hcut.2 m (by omega)
      clear hm
      generalize S06.squash ((m : Int) - 3071) = q at *
      by_cases hkm : q < c
      · have hkm2 := hcm.1 hkm
        clear hcm
        go_wp2_with fail
        refine (HS.out _).mono ?_
        rintro e w2 ⟨rfl, hb2⟩
        have hB2 := below_trans hB hb2
        go_wp2
        go_roundw
        case rel => exact ⟨m + 1, b, by congr 1; push_cast; omega, rfl, by omega, hb, hbn, hB2⟩
        case measure => simp [intOf]; omega
      · have hkm2 : k ≤ m := Nat.le_of_not_lt fun h => hkm (hcm.2 h)
        clear hcm
        go_wp2_with fail
        refine (HS.out _).mono ?_
        rintro e w2 ⟨rfl, hb2⟩
        have hB2 := below_trans hB hb2
        go_wp2
        go_roundw
        case rel => exact ⟨a, m, rfl, rfl, ha, hkm2, by omega, hB2⟩
        case measure => simp [intOf]; omega
    · obtain rfl : a = b := by omega
      obtain rfl : a = k := by omega
      go_wp2
      go_returns
      exact ⟨rfl, hB⟩
end Go.Proofs.Ytojdbhcgppcgkaa
