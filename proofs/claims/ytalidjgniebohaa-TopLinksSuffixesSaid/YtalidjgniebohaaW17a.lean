/- The closures that the sorting of suffixes compares with (layer 32). No condition. -/
import Derived.Test.YtalidjgniebohaaRows
import Derived.Test.YtalidjgniebohaaSpec17
import Derived.Test.YtalidjgniebohaaBase12
import Derived.WalkKit
import Derived.WalkSpells
import Derived.WalkLawsBesides
import Derived.Handy
import Derived.Lib.Hide
import Derived.Lib.MinMax
import Derived.Sort.Grow
import Derived.Sort.WalkA
import Derived.Shelf.Abstract
set_option linter.unusedSimpArgs false
set_option linter.unusedVariables false
set_option linter.unusedSectionVars false
namespace Go.Proofs.Ytalidjgniebohaa
open Go.RowKit Go.Shelf
open Go.Sort (grow grow_empty grow_grow alloc_eq_grow size_grow heap_grow_old)

/-- The world has drawn, and has laid blocks. -/
def GrD (w w' : World) : Prop := ∃ q os, w' = grow (w.drewN q) os
theorem GrD.refl (w : World) : GrD w w := ⟨0, #[], by rw [grow_empty]; rfl⟩
theorem GrD.trans {a b c : World} (h : GrD a b) (k : GrD b c) : GrD a c := by
  obtain ⟨q, os, rfl⟩ := h
  obtain ⟨q', os', rfl⟩ := k
  exact ⟨q + q', os ++ os', by show grow (grow ((a.drewN q).drewN q') os) os' = _; rw [grow_grow, World.drewN_drewN]⟩
theorem GrD.drew {a b : World} (h : GrD a b) : GrD a b.drew := h.trans ⟨1, #[], by rw [grow_empty]; rfl⟩
theorem GrD.alloc {a b : World} (h : GrD a b) (o : Obj) : GrD a (b.alloc o) := h.trans ⟨0, #[o], by rw [alloc_eq_grow]; rfl⟩
theorem GrD.below {a b : World} (h : GrD a b) : Below a.heap.size a b := by
  obtain ⟨q, os, rfl⟩ := h
  exact ⟨rfl, rfl, rfl, by rw [size_grow]; exact Nat.le_add_right _ _, fun k hk => heap_grow_old _ _ hk⟩

theorem isNaN17 (x : Int) (w : World) : Calls Try.prog 17 #[.int .i64 x] w fun e w' => e = .returned (.bool false) ∧ w' = w := by
  go_enter Try.func17, Try.ntmps17
  go_wp2
  go_returns
  exact ⟨by simp, rfl⟩

set_option maxHeartbeats 1000000 in
theorem compare17 (x y : Int) (w : World) : Calls Try.prog 11 #[.int .i64 x, .int .i64 y] w fun e w' => e = .returned (.int .i64 (S17.cmp x y)) ∧ w' = w := by
  have H := Lib.hid fun (x : Int) (w : World) => isNaN17 x w
  unfold S17.cmp
  by_cases h1 : x < y
  · rw [if_pos h1]
    go_enter Try.func11, Try.ntmps11
    go_wp2_with fail
    refine (H.out _ _).mono ?_
    rintro e w' ⟨rfl, rfl⟩
    go_wp2_with fail
    refine (H.out _ _).mono ?_
    rintro e w' ⟨rfl, rfl⟩
    go_wp2
    go_returns
    exact ⟨rfl, rfl⟩
  · rw [if_neg h1]
    by_cases h2 : x > y
    · rw [if_pos h2]
      go_enter Try.func11, Try.ntmps11
      go_wp2_with fail
      refine (H.out _ _).mono ?_
      rintro e w' ⟨rfl, rfl⟩
      go_wp2_with fail
      refine (H.out _ _).mono ?_
      rintro e w' ⟨rfl, rfl⟩
      go_wp2
      go_returns
      exact ⟨rfl, rfl⟩
    · rw [if_neg h2]
      go_enter Try.func11, Try.ntmps11
      go_wp2_with fail
      refine (H.out _ _).mono ?_
      rintro e w' ⟨rfl, rfl⟩
      go_wp2_with fail
      refine (H.out _ _).mono ?_
      rintro e w' ⟨rfl, rfl⟩
      go_wp2
      go_returns
      exact ⟨rfl, rfl⟩

set_option maxHeartbeats 1000000 in
theorem or17 (b : Nat) (u v : Int) (w : World) (h0 : w.cell? ⟨b, 0, none⟩ = some (.int .i64 u)) (h1 : w.cell? ⟨b, 1, none⟩ = some (.int .i64 v)) :
    Calls Try.prog 10 #[.slice (some ⟨b, 0, none⟩) 2 2] w fun e w' => e = .returned (.int .i64 (if u ≠ 0 then u else v)) ∧ w' = w := by
  go_enter Try.func10, Try.ntmps10
  by_cases hu : u = 0
  · subst hu
    rw [if_neg (by simp)]
    by_cases hv : v = 0
    · subst hv
      go_wp2
      go_loopw [8] (fun i wr => ∃ k : Nat, k ≤ 2 ∧ i = .int .i64 (k : Int) ∧ wr = w) (fun i _ => 2 - (intOf i).toNat)
      case atStart => exact ⟨0, by omega, rfl, rfl⟩
      case round =>
        obtain ⟨k, hk, rfl, rfl⟩ := hrel
        rcases (by omega : k = 0 ∨ k = 1 ∨ k = 2) with rfl | rfl | rfl
        · go_wp2
          go_roundw
          case rel => exact ⟨1, by omega, rfl, trivial⟩
          case measure => simp [intOf]
        · go_wp2
          go_roundw
          case rel => exact ⟨2, by omega, rfl, trivial⟩
          case measure => simp [intOf]
        · go_wp2
          go_returns
          exact ⟨rfl, rfl⟩
    · have hv' : (v != 0) = true := by simp [hv]
      go_wp2
      go_loopw [8] (fun i wr => ∃ k : Nat, k ≤ 1 ∧ i = .int .i64 (k : Int) ∧ wr = w) (fun i _ => 2 - (intOf i).toNat)
      case atStart => exact ⟨0, by omega, rfl, rfl⟩
      case round =>
        obtain ⟨k, hk, rfl, rfl⟩ := hrel
        rcases (by omega : k = 0 ∨ k = 1) with rfl | rfl
        · go_wp2
          go_roundw
          case rel => exact ⟨1, by omega, rfl, trivial⟩
          case measure => simp [intOf]
        · go_wp2
          go_returns
          exact ⟨rfl, rfl⟩
  · have hu' : (u != 0) = true := by simp [hu]
    rw [if_pos hu]
    go_wp2
    go_loopw [8] (fun i wr => i = .int .i64 0 ∧ wr = w) (fun i _ => 2 - (intOf i).toNat)
    case atStart => exact ⟨rfl, rfl⟩
    case round =>
      obtain ⟨rfl, rfl⟩ := hrel
      go_wp2
      go_returns
      exact ⟨rfl, rfl⟩

set_option maxHeartbeats 1000000 in
theorem rest17 (n l : Nat) (r : Nat → Int) (hn : n ≤ 150) (hl : l ≤ 1000) (p : Nat) (hp : p ≤ n) (Bl Bn Br R cap : Nat) (w : World) (h1 : w.cell? ⟨Bl, 0, none⟩ = some (.int .i64 (l : Int))) (h2 : w.cell? ⟨Bn, 0, none⟩ = some (.int .i64 (n : Int)))
    (h3 : w.cell? ⟨Br, 0, none⟩ = some (.slice (some ⟨R, 0, none⟩) (n + 1) cap)) (h4 : ∀ i, i ≤ n → w.cell? ⟨R, i, none⟩ = some (.int .i64 (r i))) :
    Calls Try.prog 8 #[.int .i64 (p : Int), .pointer (some ⟨Bl, 0, none⟩), .pointer (some ⟨Bn, 0, none⟩), .pointer (some ⟨Br, 0, none⟩)] w fun e w' => e = .returned (.int .i64 (S17.rest n l r p)) ∧ w' = w := by
  unfold S17.rest
  have e1 : IntKind.i64.wrap ((p : Int) + (l : Int)) = ((p + l : Nat) : Int) := by rw [IntWalk.i64_in _ (by omega)]; omega
  obtain ⟨q, hq⟩ : ∃ q, p + l = q := ⟨_, rfl⟩
  rw [hq] at e1 ⊢
  by_cases h : q ≤ n
  · rw [if_pos h]
    have h5 := h4 q h
    have hz : (q : Int) ≤ (n : Int) := by omega
    clear h4
    go_enter Try.func8, Try.ntmps8
    go_wp2
    go_returns
    exact ⟨rfl, rfl⟩
  · rw [if_neg h]
    have hz : ¬ (q : Int) ≤ (n : Int) := by omega
    clear h4
    go_enter Try.func8, Try.ntmps8
    go_wp2
    go_returns
    exact ⟨rfl, rfl⟩
end Go.Proofs.Ytalidjgniebohaa
