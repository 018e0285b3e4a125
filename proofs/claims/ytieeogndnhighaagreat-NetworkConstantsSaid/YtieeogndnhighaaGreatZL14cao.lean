/- A part of the proof that ends in L14c (Rep). No condition. -/
import Derived.Below
import Derived.Deep.MidRow
import Derived.Handy
import Derived.Laws.AppendOwnNone
import Derived.Laws.CopyOwn
import Derived.Laws.MakeOwn
import Derived.Lib.Hide
import Derived.Lib.MinMax
import Derived.Maps.AppendAt
import Derived.Orders
import Derived.OrdersHeld
import Derived.Tactics
import Derived.Test.YtieeogndnhighaaGreatRows
import Derived.Test.YtieeogndnhighaaGreatShelf
import Derived.WalkKit
import Derived.WalkLawsBesides
import Derived.WalkSpells
import Derived.Test.YtieeogndnhighaaGreatZL14cam
set_option linter.unusedSimpArgs false
set_option linter.unusedVariables false
set_option linter.unusedSectionVars false
namespace Go.Proofs.YtieeogndnhighaaGreat
open Go.RowKit
def Ints (xs : List Int) : List Value := xs.map (Value.int .i64)
theorem Ints_length (xs : List Int) : (Ints xs).length = xs.length := by simp [Ints]
theorem Ints_one (xs : List Int) : ∀ u ∈ Ints xs, u.oneCell' = true := by
  intro u hu
  simp only [Ints, List.mem_map] at hu
  obtain ⟨x, _, rfl⟩ := hu
  rfl
theorem elems_ints : Elems Tryz.prog 39 3 1 8 [.int .i64 0] := ⟨Tryz.underlying39, by kernel_rfl, rfl, by decide⟩
/-- q copies of some numbers. -/
def reps (xs : List Int) (q : Nat) : List Int := (List.replicate q xs).flatten
theorem reps_length (xs : List Int) (q : Nat) : (reps xs q).length = q * xs.length := by simp [reps]
theorem reps_add (xs : List Int) (p q : Nat) : reps xs (p + q) = reps xs p ++ reps xs q := by
  rw [reps, ← List.replicate_append_replicate, List.flatten_append]; rfl
theorem reps_one (xs : List Int) : reps xs 1 = xs := by simp [reps]
theorem Ints_append (xs ys : List Int) : Ints (xs ++ ys) = Ints xs ++ Ints ys := by simp [Ints]
theorem splice_reps {xs : List Int} {cs : List Value} {k m n : Nat} (hl : cs.length = n * xs.length) (ht : cs.take (k * xs.length) = Ints (reps xs k)) (hf : k + m ≤ n) :
    (splice cs (k * xs.length) (Ints (reps xs m))).take ((k + m) * xs.length) = Ints (reps xs (k + m)) := by
  unfold splice
  rw [ht, ← List.append_assoc, ← Ints_append, ← reps_add]
  exact List.take_left' (by rw [Ints_length, reps_length])
theorem reps_take {xs : List Int} {cs : List Value} {k m : Nat} (ht : cs.take (k * xs.length) = Ints (reps xs k)) (hm : m ≤ k) : cs.take (m * xs.length) = Ints (reps xs m) := by
  obtain ⟨d, rfl⟩ : ∃ d, k = m + d := ⟨k - m, by omega⟩
  have h1 : (cs.take ((m + d) * xs.length)).take (m * xs.length) = cs.take (m * xs.length) := by rw [List.take_take, Nat.min_eq_left (Nat.mul_le_mul_right _ (by omega))]
  rw [← h1, ht, reps_add, Ints_append]
  exact List.take_left' (by rw [Ints_length, reps_length])
theorem reps_rd {w : World} {b : Nat} {xs : List Int} {cs : List Value} {t : TypeId} {k m : Nat} (hb : Blk w b cs t) (ht : cs.take (k * xs.length) = Ints (reps xs k)) (hm : m ≤ k) : Rd w (some ⟨b, 0, none⟩) (Ints (reps xs m)) := fun _ => by
  refine ⟨b, 0, rfl, fun j v hv => ?_⟩
  rw [Nat.zero_add, hb.cell]
  rw [← reps_take ht hm, List.getElem?_take] at hv
  split at hv
  · exact hv
  · cases hv
set_option maxRecDepth 100000 in
set_option maxHeartbeats 2000000 in
theorem repeatIntsB_any (xs : List Int) (n : Nat) (a : Option Addr) (c : Nat) (w : World) (hx : 1 ≤ xs.length) (hx' : xs.length ≤ 1000) (hn : n ≤ 65536) (hrd : Rd w a (Ints xs)) :
    Calls Tryz.prog 275 #[.slice a xs.length c, .int .i64 n] w fun e w' => ∃ b, e = .returned (.slice (some ⟨b, 0, none⟩) (n * xs.length) (n * xs.length)) ∧ w.heap.size ≤ b ∧ Blk w' b (Ints (reps xs n)) 3 ∧ Below w.heap.size w w' := by
  obtain ⟨L, hL⟩ : ∃ L, L = xs.length := ⟨_, rfl⟩
  have hN : n * L ≤ 65536000 := Nat.le_trans (Nat.mul_le_mul_left _ (by omega : L ≤ 1000)) (by omega)
  have hm1 : L * n / 18446744073709551616 = 0 := by rw [Nat.mul_comm]; omega
  have hm2 : L * n % 18446744073709551616 = n * L := by rw [Nat.mul_comm]; omega
  have hmul := fun W => Tryz.bits_Mul L n (by omega) (by omega) W
  simp only [hm1, hm2] at hmul
  have Hmul := Lib.hid hmul
  clear hmul
  rw [← hL] at hx hx' ⊢
  have hone : ∀ (m : Nat), ∀ u ∈ Ints (reps xs m), u.oneCell' = true := fun m => Ints_one _
  have hrd1 : ∀ W, Below w.heap.size w W → Rd W a (Ints (reps xs (min 1 n))) := fun W hb => by
    rcases Nat.eq_zero_or_pos n with h0 | h0
    · subst h0; exact Rd.nil _ _
    · rw [Nat.min_eq_left h0, reps_one]; exact hrd.step hb
  have Hrd1 := Lib.hid hrd1
  clear hrd1 hrd
  have HL := Lib.hid hL
  have hlen : ∀ q, (Ints (reps xs q)).length = q * L := fun q => by rw [Ints_length, reps_length, hL]
  have Hlen := Lib.hid hlen
  clear hL hlen
  have hmin : min 1 n ≤ n := by omega
  have hmL : min 1 n * L ≤ n * L := Nat.mul_le_mul_right _ hmin
  have hmL2 : min 1 n * L = min L (n * L) := by
    rcases Nat.eq_zero_or_pos n with h0 | h0
    · subst h0; simp
    · rw [Nat.min_eq_left h0, Nat.one_mul, Nat.min_eq_left]; exact Nat.le_mul_of_pos_left _ h0
  have HmL2 := Lib.hid hmL2
  clear hmL2
  obtain ⟨NL, hNL⟩ : ∃ NL, NL = n * L := ⟨_, rfl⟩
  rw [← hNL] at hN Hmul hmL HmL2 ⊢
  have HNL := Lib.hid hNL
  have hw1 : IntKind.u64.wrap (L : Int) = L := by rw [IntKind.wrap_u64]; omega
  have hw2 : IntKind.u64.wrap (n : Int) = n := by rw [IntKind.wrap_u64]; omega
  have hw3 : IntKind.i64.wrap (NL : Int) = NL := IntWalk.i64_in _ (by omega)
  clear hNL
  go_enter Tryz.func275, Tryz.ntmps275
  go_wp2_with fail
  refine (Hmul.out _).mono ?_
  rintro e w1 ⟨rfl, rfl⟩
  go_wp2_with (at_make; refine wpList_make_blk (.tmp 29) 39 3 1 8 _ elems_ints rfl rfl .i64 NL rfl (by omega) (by unfold maxLen; omega) ?_; intro w2 Z hZ hZl hs2 hb2)
  have hfit : (Ints (reps xs (min 1 n))).length ≤ NL := by rw [Hlen.out]; exact hmL
  rw [run_copy_cells (P := Tryz.prog) w2 39 39 3 3 1 Tryz.underlying39 (by kernel_rfl) w1.heap.size 0 NL NL a L c (min 1 n * L) HmL2.out (Ints (reps xs (min 1 n))) (by rw [Hlen.out, Nat.mul_one]) (Hrd1.out _ hb2) (there_blk hZ 0 _ (by omega)) (hone _)]
  have hZ3 := hZ.setCells (Ints (reps xs (min 1 n))) 0 (by omega)
  have hB3 : Below w1.heap.size w1 (w2.setCells w1.heap.size 0 (Ints (reps xs (min 1 n)))) := hb2.trans (below_setCells (Nat.le_refl _) _ _ _)
  have hl3 : (splice Z 0 (Ints (reps xs (min 1 n)))).length = n * xs.length := by rw [length_splice _ _ _ (by omega), hZl, Nat.mul_one, HNL.out, HL.out]
  have ht3 : (splice Z 0 (Ints (reps xs (min 1 n)))).take (min 1 n * xs.length) = Ints (reps xs (min 1 n)) := by
    have := splice_reps (xs := xs) (k := 0) (m := min 1 n) (cs := Z) (n := n) (by rw [hZl, Nat.mul_one, HNL.out, HL.out]) (by simp [reps, Ints]) (by omega)
    rw [Nat.zero_mul, Nat.zero_add] at this
    exact this
  generalize w2.setCells w1.heap.size 0 (Ints (reps xs (min 1 n))) = w3 at *
  generalize splice Z 0 (Ints (reps xs (min 1 n))) = cs3 at *
  have H3 := Lib.hid ht3
  have HZ3 := Lib.hid hZ3
  have Hl3 := Lib.hid hl3
  clear ht3 hZ3 hZ hZl hb2 hs2 hfit hl3
  go_wp2_with fail
  go_loopw [8] (fun v8 wr => ∃ (k kL : Nat) (cs : List Value), k ≤ n ∧ (n = 0 ∨ 1 ≤ k) ∧ kL = k * L ∧ v8 = .int .i64 kL ∧ Blk wr w1.heap.size cs 3 ∧ cs.length = n * xs.length ∧ cs.take (k * xs.length) = Ints (reps xs k) ∧ Below w1.heap.size w1 wr)
    (fun v8 _ => NL - (intOf v8).toNat)
  case atStart => exact ⟨min 1 n, min 1 n * L, cs3, hmin, by omega, rfl, rfl, HZ3.out, Hl3.out, H3.out, hB3⟩
  case round =>
    obtain ⟨k, kL, cs, hk, hk1, hkL, rfl, hblk, hl, ht, hB⟩ := hrel
    have Hblk := Lib.hid hblk
    have Ht := Lib.hid ht
    have HkL := Lib.hid hkL
    have Hl := Lib.hid hl
    have hkle : kL ≤ NL := by rw [hkL, HNL.out]; exact Nat.mul_le_mul_right _ hk
    clear hblk ht hkL hl
    have zr : w1.heap.size ≤ wr.heap.size := hB.size
    by_cases hlt : k < n
    · obtain ⟨m, hmdef⟩ : ∃ m, m = min k (n - k) := ⟨_, rfl⟩
      have hm1 : 1 ≤ m := by omega
      have hmk : m ≤ k := by omega
      have hmn : k + m ≤ n := by omega
      obtain ⟨mL, hmL3⟩ : ∃ mL, mL = m * L := ⟨_, rfl⟩
      have hmLpos : 1 ≤ mL := by rw [hmL3]; exact Nat.le_trans hm1 (Nat.le_mul_of_pos_right _ hx)
      have hsum : kL + mL ≤ NL := by
        rw [HkL.out, hmL3, HNL.out, ← Nat.add_mul]; exact Nat.mul_le_mul_right _ hmn
      have hdiff : NL - kL = (n - k) * L := by rw [HNL.out, HkL.out, Nat.sub_mul]
      have hmm : mL = min kL (NL - kL) := by
        rw [hdiff, HkL.out, hmL3, hmdef]
        rcases Nat.le_total k (n - k) with h | h
        · rw [Nat.min_eq_left h, Nat.min_eq_left (Nat.mul_le_mul_right _ h)]
        · rw [Nat.min_eq_right h, Nat.min_eq_right (Nat.mul_le_mul_right _ h)]
      have hl4 : (kL : Int) < (NL : Int) := by omega
      have hk0 : ¬ (kL : Int) < 0 := by omega
      have hne : ¬ NL = kL := by omega
      have Hmm := Lib.hid hmm
      have HmL3 := Lib.hid hmL3
      clear hmm hmL3 hdiff hmdef
      go_wp2_with fail
      refine wp_region_pure 7 3 _ _ (by kernel_rfl) (List.take_append_drop 7 _).symm rfl rfl (by kernel_rfl) (fun Y F hY hF => ?_)
      simp only [List.take_succ_cons, List.take_zero, List.drop_succ_cons, List.drop_zero]
      repeat
        apply wpPure_value (by first | rfl | (rw [hY]; rfl))
        · intro w2
          go_simp
          with_reducible rfl
        simp only [Act.put, List.setIfInBounds_toArray, List.set_cons_zero, List.set_cons_succ]
      refine hF.out _ (fun K hK => ?_)
      clear hF hY
      simp only [List.drop_succ_cons, List.drop_zero]
      go_wp2_with fail
      have hfit : (Ints (reps xs m)).length = mL := by rw [Hlen.out, HmL3.out]
      have hcl : cs.length = NL := by rw [Hl.out, HNL.out, HL.out]
      rw [run_copy_cells (P := Tryz.prog) wr.drew 39 39 3 3 1 Tryz.underlying39 (by kernel_rfl) w1.heap.size kL (NL - kL) (NL - kL) (some ⟨w1.heap.size, 0, none⟩) kL NL mL Hmm.out (Ints (reps xs m)) (by rw [hfit, Nat.mul_one]) (reps_rd Hblk.out.drew Ht.out hmk) (there_blk Hblk.out.drew kL _ (by omega)) (hone _)]
      have hZ4 := Hblk.out.drew.setCells (Ints (reps xs m)) kL (by omega)
      have hB4 : Below w1.heap.size w1 (wr.drew.setCells w1.heap.size kL (Ints (reps xs m))) := hB.drew.trans (below_setCells (Nat.le_refl _) _ _ _)
      have hl5 : (splice cs kL (Ints (reps xs m))).length = n * xs.length := by rw [length_splice _ _ _ (by omega)]; exact Hl.out
      have ht4 : (splice cs kL (Ints (reps xs m))).take ((k + m) * xs.length) = Ints (reps xs (k + m)) := by
        have := splice_reps Hl.out Ht.out hmn
        rw [← HL.out, ← HkL.out] at this
        rw [← HL.out]
        exact this
      generalize wr.drew.setCells w1.heap.size kL (Ints (reps xs m)) = w4 at *
      generalize splice cs kL (Ints (reps xs m)) = cs4 at *
      have H4 := Lib.hid ht4
      have HZ4 := Lib.hid hZ4
      have Hl5 := Lib.hid hl5
      clear ht4 hZ4 Hblk Ht hl5 hfit hcl
      have hwr : IntKind.i64.wrap ((kL : Int) + (mL : Int)) = ((kL + mL : Nat) : Int) := by rw [IntWalk.i64_in _ (by omega)]; omega
      go_wp2_with fail
      refine OnlyK.mk (hK.out _ _ ?_)
      change _ ∧ _
      go_roundw
      case rel => exact ⟨k + m, kL + mL, cs4, hmn, by omega, by rw [HkL.out, HmL3.out, Nat.add_mul], by go_num, HZ4.out, Hl5.out, H4.out, hB4⟩
      case measure => simp [intOf]; omega
    · obtain rfl : k = n := by omega
      have he : kL = NL := by rw [HkL.out, HNL.out]
      subst he
      go_wp2
      go_returns
      have e : cs = Ints (reps xs k) := by rw [← Ht.out, List.take_of_length_le (by rw [Hl.out]; exact Nat.le_refl _)]
      subst e
      exact ⟨_, rfl, Nat.le_refl _, Hblk.out, hB⟩
end Go.Proofs.YtieeogndnhighaaGreat
