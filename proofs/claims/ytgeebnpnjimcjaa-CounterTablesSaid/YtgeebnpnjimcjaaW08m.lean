/- slices.Repeat at one counter. No condition. -/
import Derived.Test.YtgeebnpnjimcjaaW08l
import Derived.Test.YtgeebnpnjimcjaaBase6
import Derived.Test.YtgeebnpnjimcjaaShelf
set_option linter.unusedSimpArgs false
set_option linter.unusedVariables false
set_option linter.unusedSectionVars false
namespace Go.Proofs.Ytgeebnpnjimcjaa
open Go.RowKit

/-- What lies in front, behind a splice. -/
theorem splice_fresh {cs : List Value} {k m n : Nat} (hl : cs.length = n * 2) (ht : cs.take (k * 2) = S08.fresh k) (hf : k + m ≤ n) : (splice cs (k * 2) (S08.fresh m)).take ((k + m) * 2) = S08.fresh (k + m) := by
  unfold splice
  rw [ht, ← List.append_assoc, ← S08.fresh_add]
  exact List.take_left' (by rw [S08.fresh_length])

theorem fresh_take {cs : List Value} {k m : Nat} (ht : cs.take (k * 2) = S08.fresh k) (hm : m ≤ k) : cs.take (m * 2) = S08.fresh m := by
  obtain ⟨d, rfl⟩ : ∃ d, k = m + d := ⟨k - m, by omega⟩
  have h1 : (cs.take ((m + d) * 2)).take (m * 2) = cs.take (m * 2) := by rw [List.take_take, Nat.min_eq_left (by omega)]
  rw [← h1, ht, S08.fresh_add]
  exact List.take_left' (by rw [S08.fresh_length])
theorem fresh_rd {w : World} {b : Nat} {cs : List Value} {t : TypeId} {k m : Nat} (hb : Blk w b cs t) (ht : cs.take (k * 2) = S08.fresh k) (hm : m ≤ k) : Rd w (some ⟨b, 0, none⟩) (S08.fresh m) := fun _ => by
  refine ⟨b, 0, rfl, fun j v hv => ?_⟩
  rw [Nat.zero_add, hb.cell]
  rw [← fresh_take ht hm, List.getElem?_take] at hv
  split at hv
  · exact hv
  · cases hv

set_option maxHeartbeats 1000000 in
theorem repeat08_any (n : Nat) (a : Option Addr) (c : Nat) (w : World) (hn : n ≤ 65536) (hrd : Rd w a [.int .i64 32768, .int .i64 0]) :
    Calls Try.prog 26 #[.slice a 1 c, .int .i64 n] w fun e w' => ∃ b cap, e = .returned (.slice (some ⟨b, 0, none⟩) n cap) ∧ Rd w' (some ⟨b, 0, none⟩) (S08.fresh n) ∧ Below w.heap.size w w' := by
  have hm1 : 1 * n / 18446744073709551616 = 0 := by omega
  have hm2 : 1 * n % 18446744073709551616 = n := by omega
  have hmul := fun W => Try.bits_Mul 1 n (by omega) (by omega) W
  simp only [hm1, hm2] at hmul
  have Hmul := Lib.hid hmul
  clear hmul
  have hw1 : IntKind.u64.wrap (n : Int) = n := by rw [IntKind.wrap_u64]; omega
  have hw2 : IntKind.i64.wrap (n : Int) = n := IntWalk.i64_in _ (by omega)
  go_enter Try.func26, Try.ntmps26
  go_wp2_with fail
  refine (Hmul.out _).mono ?_
  rintro e w1 ⟨rfl, rfl⟩
  have hone : ∀ (m : Nat), ∀ u ∈ S08.fresh m, u.oneCell' = true := by
    intro m u hu
    simp only [S08.fresh, List.mem_flatten, List.mem_replicate] at hu
    obtain ⟨l, ⟨_, rfl⟩, hu⟩ := hu
    simp at hu
    rcases hu with rfl | rfl <;> rfl
  have hrd1 : ∀ W, Below w1.heap.size w1 W → Rd W a (S08.fresh (min 1 n)) := fun W hb => by
    rcases Nat.eq_zero_or_pos n with h0 | h0
    · subst h0; exact Rd.nil _ _
    · rw [Nat.min_eq_left h0]; exact hrd.step hb
  have Hrd1 := Lib.hid hrd1
  clear hrd1 hrd
  have hmin : min 1 n ≤ n := by omega
  go_wp2_with (at_make; refine wpList_make_blk (.tmp 29) 43 23 2 16 _ elems_ctrs rfl rfl .i64 n rfl (by omega) (by unfold maxLen; omega) ?_; intro w2 Z hZ hZl hs2 hb2)
  rw [run_copy_cells (P := Try.prog) w2 43 43 3 23 2 Try.underlying43 (by kernel_rfl) w1.heap.size 0 n n a 1 c (min 1 n) rfl (S08.fresh (min 1 n)) (S08.fresh_length _) (Hrd1.out _ hb2) (there_blk hZ 0 _ (by rw [S08.fresh_length]; omega)) (hone _)]
  have hZ3 := hZ.setCells (S08.fresh (min 1 n)) 0 (by rw [S08.fresh_length]; omega)
  have hB3 : Below w1.heap.size w1 (w2.setCells w1.heap.size 0 (S08.fresh (min 1 n))) := hb2.trans (below_setCells (Nat.le_refl _) _ _ _)
  have hl3 : (splice Z 0 (S08.fresh (min 1 n))).length = n * 2 := by rw [length_splice _ _ _ (by rw [S08.fresh_length]; omega)]; exact hZl
  have ht3 : (splice Z 0 (S08.fresh (min 1 n))).take (min 1 n * 2) = S08.fresh (min 1 n) := by
    have := splice_fresh (k := 0) (m := min 1 n) hZl rfl (by omega)
    rw [Nat.zero_mul, Nat.zero_add] at this
    exact this
  generalize w2.setCells w1.heap.size 0 (S08.fresh (min 1 n)) = w3 at *
  generalize splice Z 0 (S08.fresh (min 1 n)) = cs3 at *
  have H3 := Lib.hid ht3
  have HZ3 := Lib.hid hZ3
  clear ht3 hZ3 hZ hZl hb2 hs2
  go_wp2_with fail
  go_loopw [8] (fun v8 wr => ∃ (k : Nat) (cs : List Value), k ≤ n ∧ (n = 0 ∨ 1 ≤ k) ∧ v8 = .int .i64 k ∧ Blk wr w1.heap.size cs 23 ∧ cs.length = n * 2 ∧ cs.take (k * 2) = S08.fresh k ∧ Below w1.heap.size w1 wr)
    (fun v8 _ => n - (intOf v8).toNat)
  case atStart => exact ⟨min 1 n, cs3, hmin, by omega, rfl, HZ3.out, hl3, H3.out, hB3⟩
  case round =>
    obtain ⟨k, cs, hk, hk1, rfl, hblk, hl, ht, hB⟩ := hrel
    have Hblk := Lib.hid hblk
    have Ht := Lib.hid ht
    clear hblk ht
    have zr : w1.heap.size ≤ wr.heap.size := hB.size
    by_cases hlt : k < n
    · have hl4 : (k : Int) < (n : Int) := by omega
      have hk0 : ¬ (k : Int) < 0 := by omega
      have hne : ¬ n = k := by omega
      obtain ⟨m, hmdef⟩ : ∃ m, m = min k (n - k) := ⟨_, rfl⟩
      have hm1 : 1 ≤ m := by omega
      have hmk : m ≤ k := by omega
      have hmn : k + m ≤ n := by omega
      go_wp2_with fail
      refine wp_region_pure 7 3 _ _ (by kernel_rfl) (List.take_append_drop 7 _).symm rfl rfl (by kernel_rfl) (fun Y F hY hF => ?_)
      simp only [List.take_succ_cons, List.take_zero, List.drop_succ_cons, List.drop_zero]
      repeat
        apply wpPure_value (by first | rfl | (rw [hY]; rfl))
        · intro w2
          go_simp
          with_reducible rfl
        simp only [Act.put, List.setIfInBounds_toArray, List.set_cons_zero, List.set_cons_succ]
      refine hF.out _ (fun K hK => ?_)
      clear hF hY
      simp only [List.drop_succ_cons, List.drop_zero]
      go_wp2_with fail
      rw [run_copy_cells (P := Try.prog) wr.drew 43 43 3 23 2 Try.underlying43 (by kernel_rfl) w1.heap.size (k * 2) (n - k) (n - k) (some ⟨w1.heap.size, 0, none⟩) k n m hmdef (S08.fresh m) (S08.fresh_length _) (fresh_rd Hblk.out.drew Ht.out hmk) (there_blk Hblk.out.drew (k * 2) _ (by rw [S08.fresh_length]; omega)) (hone _)]
      have hZ4 := Hblk.out.drew.setCells (S08.fresh m) (k * 2) (by rw [S08.fresh_length]; omega)
      have hB4 : Below w1.heap.size w1 (wr.drew.setCells w1.heap.size (k * 2) (S08.fresh m)) := hB.drew.trans (below_setCells (Nat.le_refl _) _ _ _)
      have hl5 : (splice cs (k * 2) (S08.fresh m)).length = n * 2 := by rw [length_splice _ _ _ (by rw [S08.fresh_length]; omega)]; exact hl
      have ht4 := splice_fresh hl Ht.out hmn
      generalize wr.drew.setCells w1.heap.size (k * 2) (S08.fresh m) = w4 at *
      generalize splice cs (k * 2) (S08.fresh m) = cs4 at *
      have H4 := Lib.hid ht4
      have HZ4 := Lib.hid hZ4
      clear ht4 hZ4 Hblk Ht hmdef
      have hwr : IntKind.i64.wrap ((k : Int) + (m : Int)) = ((k + m : Nat) : Int) := by rw [IntWalk.i64_in _ (by omega)]; omega
      go_wp2_with fail
      refine OnlyK.mk (hK.out _ _ ?_)
      change _ ∧ _
      go_roundw
      case rel => exact ⟨k + m, cs4, hmn, by omega, by go_num, HZ4.out, hl5, H4.out, hB4⟩
      case measure => simp [intOf]; omega
    · obtain rfl : k = n := by omega
      go_wp2
      go_returns
      have e : cs = S08.fresh k := by rw [← Ht.out, List.take_of_length_le (by omega)]
      subst e
      exact ⟨_, _, rfl, fun _ => ⟨_, 0, rfl, Hblk.out.cells⟩, hB⟩
end Go.Proofs.Ytgeebnpnjimcjaa
