/- Copies of the lists of a model (layer 12). No condition. -/
import Derived.Test.YtbfgdaijpcbddaaW12n
set_option linter.unusedSimpArgs false
set_option linter.unusedVariables false
set_option linter.unusedSectionVars false
namespace Go.Proofs.Ytbfgdaijpcbddaa
open Go.RowKit

theorem elems_bytes : Elems Try.prog 22 5 1 1 [.int .u8 0] := ⟨Try.underlying22, by kernel_rfl, rfl, by decide⟩
theorem Bts_one (xs : List Int) : ∀ u ∈ Bts xs, u.oneCell' = true := by
  intro u hu
  obtain ⟨x, _, rfl⟩ := List.mem_map.1 hu
  rfl
theorem Ints_one (xs : List Int) : ∀ u ∈ Ints xs, u.oneCell' = true := by
  intro u hu
  obtain ⟨x, _, rfl⟩ := List.mem_map.1 hu
  rfl
theorem Cts_one (xs : List (Int × Int)) : ∀ u ∈ Cts xs, u.oneCell' = true := by
  intro u hu
  simp only [Cts, List.mem_flatMap] at hu
  obtain ⟨x, _, hu⟩ := hu
  simp at hu
  rcases hu with rfl | rfl <;> rfl
theorem Own.of_owns {w : World} {base : Nat} {e : TypeId} {size n cap : Nat} {a : Option Addr} {xs : List Value} (h : w.ownsRow base e size (.slice a n cap) n xs) (hne : 1 ≤ n) (hs : 1 ≤ size) : ∃ g, a = some ⟨g, 0, none⟩ ∧ base ≤ g ∧ Own w g e xs := by
  rcases h.2 with ⟨h', h0⟩ | ⟨g, cap', cur, h', hbg, hg, hnc, hcm, hcs, htake⟩
  · omega
  · simp only [Value.slice.injEq, true_and] at h'
    obtain ⟨rfl, rfl⟩ := h'
    refine ⟨g, rfl, hbg, cur.toList.drop xs.length, ?_⟩
    have : cur.toList = xs ++ cur.toList.drop xs.length := by
      rw [← htake]
      conv => lhs; rw [← List.take_append_drop (n * size) cur.toList]
      congr 2
      rw [List.length_take]
      have : cur.toList.length = cap * size := by simpa using hcs
      have := Nat.mul_le_mul_right size hnc
      omega
    rw [← this]
    exact hg

set_option maxHeartbeats 400000 in
theorem cloneInts12_any (xs : List Int) (a : Option Addr) (cap : Nat) (w : World) (h1 : 1 ≤ xs.length) (h2 : xs.length ≤ 65536) (hrd : Rd w a (Ints xs)) :
    Calls Try.prog 32 #[.slice a xs.length cap] w fun e w' => ∃ b cap', e = .returned (.slice (some ⟨b, 0, none⟩) xs.length cap') ∧ w.heap.size ≤ b ∧ Own w' b 3 (Ints xs) ∧ Below w.heap.size w w' := by
  obtain ⟨g, o, rfl, _⟩ := hrd.at (i := 0) (by rw [Ints_length]; omega)
  have qT : ∀ (w : World) (a : Option Addr) (n c n' c' : Nat), (binOp .eql 24 (.slice a n c) (.slice none n' c')).run Try.prog w = .ok (.bool a.isNone) w := fun w a n c n' c' => Lib.run_eql_slice_nil w _ _ a n c n' c' Try.underlying24
  have hrd' := Lib.hid (hrd.step ((Below.refl w.heap.size w).alloc (Nat.le_refl _) (Obj.cells #[] 3)))
  go_enter Try.func32, Try.ntmps32
  go_wp2_with (at_builtin; refine wpList_append_rd _ _ 24 3 1 8 _ w.heap.size elems_int12 rfl rfl _ 0 [] rfl (World.ownsRow_made w #[] 0 (Nat.le_refl _) (by decide) rfl) (some ⟨g, o, none⟩) xs.length cap (Ints xs) rfl (by simp [Ints]) hrd'.out (Ints_one xs) (by unfold maxLen; omega) (by omega) (by simp) ?_; intro a2 cap2 w2 hown2 hgrow2)
  have hB2 : Below w.heap.size w w2 := Below.grown (by go_grown) hgrow2 (by simp) (fun k e => by cases e; exact Nat.le_refl _)
  simp only [Nat.zero_add, List.nil_append] at hown2
  obtain ⟨b, rfl, hb, hok⟩ := Own.of_owns hown2 h1 (by decide)
  have hc := Lib.hid hok
  clear hgrow2 hown2 hok
  go_wp2
  go_returns
  exact ⟨b, cap2, by simp, hb, hc.out, hB2⟩
set_option maxHeartbeats 400000 in
theorem cloneCts12_any (xs : List (Int × Int)) (a : Option Addr) (cap : Nat) (w : World) (h1 : 1 ≤ xs.length) (h2 : xs.length ≤ 65536) (hrd : Rd w a (Cts xs)) :
    Calls Try.prog 34 #[.slice a xs.length cap] w fun e w' => ∃ b cap', e = .returned (.slice (some ⟨b, 0, none⟩) xs.length cap') ∧ w.heap.size ≤ b ∧ Own w' b 35 (Cts xs) ∧ Below w.heap.size w w' := by
  obtain ⟨g, o, rfl, _⟩ := hrd.at (i := 0) (by rw [Cts_length]; omega)
  have qT : ∀ (w : World) (a : Option Addr) (n c n' c' : Nat), (binOp .eql 25 (.slice a n c) (.slice none n' c')).run Try.prog w = .ok (.bool a.isNone) w := fun w a n c n' c' => Lib.run_eql_slice_nil w _ _ a n c n' c' Try.underlying25
  have hrd' := Lib.hid (hrd.step ((Below.refl w.heap.size w).alloc (Nat.le_refl _) (Obj.cells #[] 35)))
  go_enter Try.func34, Try.ntmps34
  go_wp2_with (at_builtin; refine wpList_append_rd _ _ 25 35 2 16 _ w.heap.size elems_ctrs rfl rfl _ 0 [] rfl (World.ownsRow_made w #[] 0 (Nat.le_refl _) (by decide) rfl) (some ⟨g, o, none⟩) xs.length cap (Cts xs) rfl (by rw [Cts_length]) hrd'.out (Cts_one xs) (by unfold maxLen; omega) (by omega) (by simp) ?_; intro a2 cap2 w2 hown2 hgrow2)
  have hB2 : Below w.heap.size w w2 := Below.grown (by go_grown) hgrow2 (by simp) (fun k e => by cases e; exact Nat.le_refl _)
  simp only [Nat.zero_add, List.nil_append] at hown2
  obtain ⟨b, rfl, hb, hok⟩ := Own.of_owns hown2 h1 (by decide)
  have hc := Lib.hid hok
  clear hgrow2 hown2 hok
  go_wp2
  go_returns
  exact ⟨b, cap2, by simp, hb, hc.out, hB2⟩
set_option maxHeartbeats 400000 in
theorem cloneBytes12_any (xs : List Int) (a : Option Addr) (cap : Nat) (w : World) (h2 : xs.length ≤ 65536) (hrd : Rd w a (Bts xs)) :
    Calls Try.prog 33 #[.slice a xs.length cap] w fun e w' => ∃ a' cap', e = .returned (.slice a' xs.length cap') ∧ w'.ownsRow w.heap.size 5 1 (.slice a' xs.length cap') xs.length (Bts xs) ∧ Below w.heap.size w w' := by
  have qT : ∀ (w : World) (a : Option Addr) (n c n' c' : Nat), (binOp .eql 22 (.slice a n c) (.slice none n' c')).run Try.prog w = .ok (.bool a.isNone) w := fun w a n c n' c' => Lib.run_eql_slice_nil w _ _ a n c n' c' Try.underlying22
  cases a with
  | none =>
    have hx : xs = [] := by
      cases hxs : xs with
      | nil => rfl
      | cons x r => obtain ⟨b, o, e, _⟩ := hrd (by rw [hxs]; simp [Bts]); cases e
    subst hx
    go_enter Try.func33, Try.ntmps33
    go_wp2_with fail
    go_returns
    exact ⟨none, 0, rfl, World.ownsRow_nil w _ _ 1, Below.refl _ _⟩
  | some a =>
    have hrd' := Lib.hid (hrd.step ((Below.refl w.heap.size w).alloc (Nat.le_refl _) (Obj.cells #[] 5)))
    go_enter Try.func33, Try.ntmps33
    go_wp2_with (at_builtin; refine wpList_append_rd _ _ 22 5 1 1 _ w.heap.size elems_bytes rfl rfl _ 0 [] rfl (World.ownsRow_made w #[] 0 (Nat.le_refl _) (by decide) rfl) (some a) xs.length cap (Bts xs) rfl (by simp [Bts]) hrd'.out (Bts_one xs) (by unfold maxLen; omega) (by omega) (by simp) ?_; intro a2 cap2 w2 hown2 hgrow2)
    have hB2 : Below w.heap.size w w2 := Below.grown (by go_grown) hgrow2 (by simp) (fun k e => by cases e; exact Nat.le_refl _)
    simp only [Nat.zero_add, List.nil_append] at hown2
    have hc := Lib.hid hown2
    clear hgrow2 hown2
    go_wp2
    go_returns
    exact ⟨a2, cap2, by simp, hc.out, hB2⟩
end Go.Proofs.Ytbfgdaijpcbddaa
