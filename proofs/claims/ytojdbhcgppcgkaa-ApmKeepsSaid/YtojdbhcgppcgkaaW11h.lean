/- What New and its reference (layer 11) return. No condition. -/
import Derived.Test.YtojdbhcgppcgkaaW11g
set_option linter.unusedSimpArgs false
set_option linter.unusedVariables false
set_option linter.unusedSectionVars false
namespace Go.Proofs.Ytojdbhcgppcgkaa
open Go.RowKit

def S11.newE (n : Int) : Int := if n < 1 ∨ 65536 < n then 2 else 0
def S11.newL (n : Int) : List Int := if n < 1 ∨ 65536 < n then [] else reps S11.first n.toNat

theorem S11.first_length : S11.first.length = 33 := by simp [S11.first]
theorem S11.first_at {k : Nat} (h : k < 33) : S11.first[k]'(by rw [S11.first_length]; exact h) = 16 * S06.squash (192 * (k : Int) - 3072) := by simp [S11.first]
theorem take_snoc {α : Type} (xs : List α) (k : Nat) (h : k < xs.length) : xs.take (k + 1) = xs.take k ++ [xs[k]] := List.take_succ_eq_append_getElem h

theorem rd_of_list {w : World} {base : Nat} {n cap : Nat} {a : Option Addr} {xs : List Int} (h : w.ownsRow base 3 1 (.slice a n cap) n (Ints xs)) : Rd w a (Ints xs) := Rd.of_owns h

set_option maxHeartbeats 2000000 in
theorem new11_ok (n : Nat) (w : World) (h1 : 1 ≤ n) (h2 : n ≤ 65536) :
    Calls Try.prog 12 #[.int .i64 n] w fun e w' => ∃ V, e = .returned (.tuple #[V, .int .i64 0]) ∧ MapIs (reps S11.first n) V w' ∧ Below w.heap.size w w' := by
  have e1 : ¬ (n : Int) < 1 := by omega
  have e2 : ¬ (65536 : Int) < n := by omega
  go_enter Try.func12, Try.ntmps12
  go_wp2
  go_loopw [4, 13] (fun v i wr => ∃ (k : Nat) (a : Option Addr) (cap : Nat), k ≤ 33 ∧ i = .int .i64 k ∧ v = .slice a k cap ∧ wr.ownsRow (w.heap.size + 1) 3 1 (.slice a k cap) k (Ints (S11.first.take k)) ∧ Blk wr w.heap.size [.slice none 0 0] 24 ∧ Below w.heap.size w wr) (fun _ i _ => 33 - (intOf i).toNat)
  case atStart => exact ⟨0, none, 0, by omega, rfl, rfl, World.ownsRow_nil _ _ _ _, Blk.new w _ _, by go_grown⟩
  case round =>
    obtain ⟨k, a, cap, hk, rfl, rfl, hown, hblk, hB⟩ := hrel
    have zr : w.heap.size < wr.heap.size := hblk.lt
    have Hown := Lib.hid hown
    have Hblk := Lib.hid hblk
    clear hown hblk
    by_cases hlt : k < 33
    · have HS := Lib.hid fun W => squash06_any (192 * (k : Int) - 3072) W
      have hq := S06.squash_bounds (192 * (k : Int) - 3072)
      have Hf := Lib.hid (S11.first_at hlt)
      have Hsn := Lib.hid (take_snoc S11.first k (by rw [S11.first_length]; exact hlt))
      generalize S06.squash (192 * (k : Int) - 3072) = q at *
      go_wp2_with fail
      refine (HS.out _).mono ?_
      rintro e w1 ⟨rfl, hb1⟩
      have hB1 : Below w.heap.size w w1 := below_trans hB hb1
      have z1 : wr.heap.size ≤ w1.heap.size := hb1.size
      have Hown1 := Lib.hid (ownS Hown.out hb1)
      have Hblk1 := Lib.hid (Hblk.out.step hb1)
      go_wp2_with (at_builtin; refine wpList_append_rd _ _ 22 3 1 8 _ (w.heap.size + 1) elems_ints rfl rfl _ k (Ints (S11.first.take k)) rfl (Hown1.out.alloc _) (some ⟨w1.heap.size, 0, none⟩) 1 1 [.int .i64 (16 * q)] rfl rfl (Rd.new w1 [.int .i64 (16 * q)] 3) (by simp [Value.oneCell']) (by unfold maxLen; omega) (by omega) (by simp; omega) ?_; intro a2 cap2 w2 hown2 hgrow2; have hB2 : Below w.heap.size w w2 := Below.grown (by go_grown) hgrow2 (by simp; omega) (fun j e => Nat.le_trans (Nat.le_succ _) (Hown1.out.lt j e).1); have hblk2 : Blk w2 w.heap.size [.slice none 0 0] 24 := (Hblk1.out.alloc _).below (Below.grown (B := w.heap.size + 1) (Below.refl _ _) hgrow2 (by simp; omega) (fun j e => (Hown1.out.lt j e).1)) (by omega); have Hown2 := Lib.hid hown2; have Hblk2 := Lib.hid hblk2; clear hown2 hgrow2 hblk2)
      go_roundw
      case rel =>
        refine ⟨k + 1, a2, cap2, by omega, by go_num, rfl, ?_, Hblk2.out, hB2⟩
        rw [Hsn.out, Hf.out, Ints_append]
        exact Hown2.out
      case measure => simp [intOf]; omega
    · obtain rfl : k = 33 := by omega
      have hall : S11.first.take 33 = S11.first := List.take_of_length_le (by rw [S11.first_length]; omega)
      have hown := Hown.out
      rw [hall] at hown
      have HR := Lib.hid (repeatInts_any S11.first n a cap wr (by rw [S11.first_length]; omega) (by rw [S11.first_length]; omega) h2 (rd_of_list hown))
      rw [S11.first_length] at HR
      clear hown hall
      go_wp2_with fail
      refine HR.out.mono ?_
      rintro e w1 ⟨b, rfl, hbge, hrd1, hb1⟩
      have hB1 : Below w.heap.size w w1 := below_trans hB hb1
      have hblk1 := Hblk.out.step hb1
      have r0 := hblk1.cell 0
      have r1 := hblk1.free 0
      have r2 := (hblk1.set 0 (.slice (some ⟨b, 0, none⟩) (n * 33) (n * 33))).cell 0
      simp only [List.set_cons_zero, List.getElem?_cons_zero] at r0 r2
      have Hrd1 := Lib.hid hrd1
      clear hrd1 hblk1
      go_wp2
      refine bodyPost_ret (v := .tuple #[.agg #[.slice (some ⟨b, 0, none⟩) (n * 33) (n * 33)], .int .i64 0]) (by simp [results, Try.results12, go_sem, r2]) rfl ⟨_, rfl, ?_, hB1.setCell (Nat.le_refl _) _⟩
      have hl : (reps S11.first n).length = n * 33 := by rw [reps_length, S11.first_length]
      exact ⟨_, _, by rw [hl], by rw [hl]; exact Nat.le_refl _, by omega, Hrd1.out.setOther (by omega)⟩

theorem new11_any (n : Int) (w : World) : Calls Try.prog 12 #[.int .i64 n] w fun e w' => ∃ V, e = .returned (.tuple #[V, .int .i64 (S11.newE n)]) ∧ MapIs (S11.newL n) V w' ∧ Below w.heap.size w w' := by
  by_cases hn : n < 1 ∨ 65536 < n
  · have e1 : S11.newE n = 2 := by unfold S11.newE; rw [if_pos hn]
    have e2 : S11.newL n = [] := by unfold S11.newL; rw [if_pos hn]
    rw [e1, e2]
    have hw : n < 1 ∨ (¬ n < 1 ∧ 65536 < n) := by omega
    have hres := Blk.new w [.slice none 0 0] 24
    have r2 := (hres.set 0 (.slice none 0 0)).cell 0
    simp only [List.set_cons_zero, List.getElem?_cons_zero] at r2
    clear hn e1 e2 hres
    rcases hw with hw | ⟨hw, hw2⟩
    all_goals
      go_enter Try.func12, Try.ntmps12
      go_wp2
      refine bodyPost_ret (v := .tuple #[.agg #[.slice none 0 0], .int .i64 2]) (by simp [results, Try.results12, go_sem, r2]) rfl ⟨_, rfl, MapIs.nil _, ?_⟩
      go_grown
  · have e1 : S11.newE n = 0 := by unfold S11.newE; rw [if_neg hn]
    have e2 : S11.newL n = reps S11.first n.toNat := by unfold S11.newL; rw [if_neg hn]
    rw [e1, e2]
    obtain ⟨m, rfl⟩ : ∃ m : Nat, n = m := ⟨n.toNat, by omega⟩
    exact new11_ok m w (by omega) (by omega)

/-! The reference. -/
set_option maxHeartbeats 2000000 in
theorem refNew11_ok (n : Nat) (w : World) (h1 : 1 ≤ n) (h2 : n ≤ 65536) :
    Calls Try.prog 13 #[.int .i64 n] w fun e w' => ∃ V, e = .returned (.tuple #[V, .int .i64 0]) ∧ MapIs (reps S11.first n) V w' ∧ Below w.heap.size w w' := by
  have e1 : ¬ (n : Int) < 1 := by omega
  have e2 : ¬ (65536 : Int) < n := by omega
  have hfl := S11.first_length
  go_enter Try.func13, Try.ntmps13
  go_wp2
  go_loopw [4, 5] (fun v i wr => ∃ (k : Nat) (a : Option Addr) (cap : Nat), k ≤ n ∧ i = .int .i64 k ∧ v = .slice a (k * 33) cap ∧ wr.ownsRow (w.heap.size + 1) 3 1 (.slice a (k * 33) cap) (k * 33) (Ints (reps S11.first k)) ∧ Blk wr w.heap.size [.slice none 0 0] 24 ∧ Below w.heap.size w wr) (fun _ i _ => n - (intOf i).toNat)
  case atStart => exact ⟨0, none, 0, by omega, rfl, by simp, by simpa [reps, Ints] using World.ownsRow_nil _ _ _ _, Blk.new w _ _, by go_grown⟩
  case round =>
    obtain ⟨wo, rfl⟩ : ∃ wo : World, wo = wr := ⟨_, rfl⟩
    obtain ⟨m, a0, cap0, hm, rfl, rfl, hown, hblk, hB⟩ := hrel
    have zr : w.heap.size < wo.heap.size := hblk.lt
    have Hown := Lib.hid hown
    have Hblk := Lib.hid hblk
    clear hown hblk
    by_cases hlt : m < n
    · have hltI : (m : Int) < n := by omega
      have d1 : decide ((m : Int) < (n : Int)) = true := by simp; omega
      obtain ⟨M, hM⟩ : ∃ M, M = m * 33 := ⟨_, rfl⟩
      rw [← hM] at Hown ⊢
      have hM2 : M ≤ 2162688 := by omega
      have HM := Lib.hid hM
      clear hM
      go_wp2
      go_loopw [4, 6] (fun v i wr => ∃ (k : Nat) (a : Option Addr) (cap : Nat), k ≤ 33 ∧ i = .int .i64 k ∧ v = .slice a (M + k) cap ∧ wr.ownsRow (w.heap.size + 1) 3 1 (.slice a (M + k) cap) (M + k) (Ints (reps S11.first m ++ S11.first.take k)) ∧ Blk wr w.heap.size [.slice none 0 0] 24 ∧ Below w.heap.size w wr) (fun _ i _ => 33 - (intOf i).toNat)
      case atStart => exact ⟨0, a0, cap0, by omega, rfl, rfl, by simpa using Hown.out, Hblk.out, hB⟩
      case round =>
        obtain ⟨k, a, cap, hk, rfl, rfl, hown, hblk, hB2⟩ := hrel
        have zr2 : w.heap.size < wr.heap.size := hblk.lt
        have Hown2 := Lib.hid hown
        have Hblk2 := Lib.hid hblk
        clear hown hblk
        by_cases hlt2 : k < 33
        · have hlt3 : (k : Int) ≤ 32 := by omega
          have HS := Lib.hid fun W => refSquash06_any (192 * (k : Int) - 3072) W
          have hq := S06.squash_bounds (192 * (k : Int) - 3072)
          have Hf := Lib.hid (S11.first_at hlt2)
          have Hsn := Lib.hid (take_snoc S11.first k (by rw [hfl]; exact hlt2))
          generalize S06.squash (192 * (k : Int) - 3072) = q at *
          go_wp2_with fail
          refine (HS.out _).mono ?_
          rintro e w1 ⟨rfl, hb1⟩
          have hB1 : Below w.heap.size w w1 := below_trans hB2 hb1
          have z1 : wr.heap.size ≤ w1.heap.size := hb1.size
          have Hown1 := Lib.hid (ownS Hown2.out hb1)
          have Hblk1 := Lib.hid (Hblk2.out.step hb1)
          go_wp2_with (at_builtin; refine wpList_append_rd _ _ 22 3 1 8 _ (w.heap.size + 1) elems_ints rfl rfl _ (M + k) (Ints (reps S11.first m ++ S11.first.take k)) rfl (Hown1.out.alloc _) (some ⟨w1.heap.size, 0, none⟩) 1 1 [.int .i64 (16 * q)] rfl rfl (Rd.new w1 [.int .i64 (16 * q)] 3) (by simp [Value.oneCell']) (by unfold maxLen; omega) (by omega) (by simp; omega) ?_; intro a2 cap2 w2 hown3 hgrow2; have hB3 : Below w.heap.size w w2 := Below.grown (by go_grown) hgrow2 (by simp; omega) (fun j e => Nat.le_trans (Nat.le_succ _) (Hown1.out.lt j e).1); have hblk3 : Blk w2 w.heap.size [.slice none 0 0] 24 := (Hblk1.out.alloc _).below (Below.grown (B := w.heap.size + 1) (Below.refl _ _) hgrow2 (by simp; omega) (fun j e => (Hown1.out.lt j e).1)) (by omega); have Hown3 := Lib.hid hown3; have Hblk3 := Lib.hid hblk3; clear hown3 hgrow2 hblk3)
          go_roundw
          case rel =>
            refine ⟨k + 1, a2, cap2, by omega, by go_num, by rw [Nat.add_assoc], ?_, Hblk3.out, hB3⟩
            rw [Hsn.out, Hf.out, ← List.append_assoc, Ints_append, ← Nat.add_assoc]
            exact Hown3.out
          case measure => simp [intOf]; omega
        · obtain rfl : k = 33 := by omega
          go_wp2
          go_roundw
          case rel =>
            have he : M + 33 = (m + 1) * 33 := by rw [HM.out]; omega
            refine ⟨m + 1, a, cap, by omega, by go_num, by rw [he], ?_, Hblk2.out, hB2⟩
            have hall : S11.first.take 33 = S11.first := List.take_of_length_le (by rw [hfl]; omega)
            have := Hown2.out
            rw [hall, he] at this
            rw [reps_add, reps_one]
            exact this
          case measure => simp [intOf]; omega
    · obtain rfl : m = n := by omega
      obtain ⟨M, hM⟩ : ∃ M, M = m * 33 := ⟨_, rfl⟩
      have hMl : (reps S11.first m).length = M := by rw [reps_length, hfl, hM]
      rw [← hM] at Hown ⊢
      have hM2 : M ≤ 2162688 := by omega
      have hown := Hown.out
      have ha := own_apart hown Hblk.out (by decide)
      have hfin := hown.kept (grown_setCell wo w.heap.size 0 (.slice a0 M cap0)) (.inr ha)
      have Hfin := Lib.hid (rd_of_list hfin)
      obtain ⟨_, _, hsl, hs1, hs2⟩ := owns_slice hown
      simp at hsl
      obtain ⟨rfl, rfl⟩ := hsl
      unfold maxLen at hs2
      have r0 := Hblk.out.cell 0
      have r1 := Hblk.out.free 0
      have r2 := (Hblk.out.set 0 (.slice a0 M cap0)).cell 0
      simp only [List.set_cons_zero, List.getElem?_cons_zero] at r0 r2
      have HMl := Lib.hid hMl
      clear hown ha hfin hM hMl
      go_wp2
      refine bodyPost_ret (v := .tuple #[.agg #[.slice a0 M cap0], .int .i64 0]) (by simp [results, Try.results13, go_sem, r2]) rfl ⟨_, rfl, ?_, hB.setCell (Nat.le_refl _) _⟩
      exact ⟨_, _, by rw [HMl.out], by rw [HMl.out]; exact hs1, hs2, Hfin.out⟩

theorem refNew11_any (n : Int) (w : World) : Calls Try.prog 13 #[.int .i64 n] w fun e w' => ∃ V, e = .returned (.tuple #[V, .int .i64 (S11.newE n)]) ∧ MapIs (S11.newL n) V w' ∧ Below w.heap.size w w' := by
  by_cases hn : n < 1 ∨ 65536 < n
  · have e1 : S11.newE n = 2 := by unfold S11.newE; rw [if_pos hn]
    have e2 : S11.newL n = [] := by unfold S11.newL; rw [if_pos hn]
    rw [e1, e2]
    have hw : n < 1 ∨ (¬ n < 1 ∧ 65536 < n) := by omega
    have hres := Blk.new w [.slice none 0 0] 24
    have r2 := (hres.set 0 (.slice none 0 0)).cell 0
    simp only [List.set_cons_zero, List.getElem?_cons_zero] at r2
    clear hn e1 e2 hres
    rcases hw with hw | ⟨hw, hw2⟩
    all_goals
      go_enter Try.func13, Try.ntmps13
      go_wp2
      refine bodyPost_ret (v := .tuple #[.agg #[.slice none 0 0], .int .i64 2]) (by simp [results, Try.results13, go_sem, r2]) rfl ⟨_, rfl, MapIs.nil _, ?_⟩
      go_grown
  · have e1 : S11.newE n = 0 := by unfold S11.newE; rw [if_neg hn]
    have e2 : S11.newL n = reps S11.first n.toNat := by unfold S11.newL; rw [if_neg hn]
    rw [e1, e2]
    obtain ⟨m, rfl⟩ : ∃ m : Nat, n = m := ⟨n.toNat, by omega⟩
    exact refNew11_ok m w (by omega) (by omega)

end Go.Proofs.Ytojdbhcgppcgkaa
