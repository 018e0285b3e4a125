/- What the sorting of suffixes compares (layer 32). No condition. -/
import Derived.Test.YtalidjgniebohaaW17a
set_option linter.unusedSimpArgs false
set_option linter.unusedVariables false
set_option linter.unusedSectionVars false
namespace Go.Proofs.Ytalidjgniebohaa
open Go.RowKit Go.Shelf
open Go.Sort (grow grow_empty grow_grow alloc_eq_grow size_grow heap_grow_old)

/-- As Keeps, and the world has but drawn and laid blocks. -/
def KeepsG (W : World) (l : List (Addr × Value)) (w : World) : Prop := GrD W w ∧ Cells w l
theorem KeepsG.start {W : World} {l : List (Addr × Value)} (h : Cells W l) : KeepsG W l W.drew := ⟨(GrD.refl _).drew, Cells.step (Below.refl _ _).drew h⟩

set_option maxRecDepth 100000 in
set_option maxHeartbeats 1000000 in
theorem cmp17_any (n l : Nat) (r : Nat → Int) (hn : n ≤ 150) (hl : l ≤ 1000) (x y : Nat) (hx : x ≤ n) (hy : y ≤ n) (Bl Bn Br Bf R cap : Nat) (w : World) (h1 : w.cell? ⟨Bl, 0, none⟩ = some (.int .i64 (l : Int))) (h2 : w.cell? ⟨Bn, 0, none⟩ = some (.int .i64 (n : Int)))
    (h3 : w.cell? ⟨Br, 0, none⟩ = some (.slice (some ⟨R, 0, none⟩) (n + 1) cap)) (h4 : ∀ i, i ≤ n → w.cell? ⟨R, i, none⟩ = some (.int .i64 (r i)))
    (h5 : w.cell? ⟨Bf, 0, none⟩ = some (.func (.func 8) #[] #[.pointer (some ⟨Bl, 0, none⟩), .pointer (some ⟨Bn, 0, none⟩), .pointer (some ⟨Br, 0, none⟩)])) :
    Calls Try.prog 9 #[.int .i64 (x : Int), .int .i64 (y : Int), .pointer (some ⟨Br, 0, none⟩), .pointer (some ⟨Bf, 0, none⟩)] w fun e w' => e = .returned (.int .i64 (S17.cf n l r x y)) ∧ GrD w w' := by
  have g1 := h4 x hx
  have g2 := h4 y hy
  have hB : ∀ V, GrD w V → ∀ p, p ≤ n → Calls Try.prog 8 #[.int .i64 (p : Int), .pointer (some ⟨Bl, 0, none⟩), .pointer (some ⟨Bn, 0, none⟩), .pointer (some ⟨Br, 0, none⟩)] V fun e w' => e = .returned (.int .i64 (S17.rest n l r p)) ∧ w' = V := fun V hV p hp => by
    have hb := hV.below
    exact rest17 n l r hn hl p hp Bl Bn Br R cap V ((hb.cell (block_lt_of_cell h1)).trans h1) ((hb.cell (block_lt_of_cell h2)).trans h2) ((hb.cell (block_lt_of_cell h3)).trans h3) fun i hi => (hb.cell (block_lt_of_cell (h4 i hi))).trans (h4 i hi)
  have HB := Lib.hid hB
  have HC := Lib.hid fun (x y : Int) (w : World) => compare17 x y w
  have HO := Lib.hid fun (b : Nat) (w : World) h0 h1 => or17 b (S17.cmp (r x) (r y)) (S17.cmp (S17.rest n l r x) (S17.rest n l r y)) w h0 h1
  rw [show (if S17.cmp (r x) (r y) ≠ 0 then S17.cmp (r x) (r y) else S17.cmp (S17.rest n l r x) (S17.rest n l r y)) = S17.cf n l r x y from rfl] at HO
  obtain ⟨Z, hZ⟩ : ∃ Z, S17.cf n l r x y = Z := ⟨_, rfl⟩
  rw [hZ] at HO ⊢
  clear hZ
  have hz1 : (x : Int) < ((n + 1 : Nat) : Int) := by omega
  have hz2 : (y : Int) < ((n + 1 : Nat) : Int) := by omega
  have hz3 : x < n + 1 := by omega
  have hz4 : y < n + 1 := by omega
  clear h4 hB
  obtain ⟨N1, hN1⟩ : ∃ N1, n + 1 = N1 := ⟨_, rfl⟩
  rw [hN1] at h3 hz1 hz2 hz3 hz4
  clear hN1
  go_enter Try.func9, Try.ntmps9
  go_wp2_with fail
  have hCS : Cells w [(⟨Br, 0, none⟩, .slice (some ⟨R, 0, none⟩) N1 cap), (⟨Bf, 0, none⟩, .func (.func 8) #[] #[.pointer (some ⟨Bl, 0, none⟩), .pointer (some ⟨Bn, 0, none⟩), .pointer (some ⟨Br, 0, none⟩)]), (⟨R, x, none⟩, .int .i64 (r x)), (⟨R, y, none⟩, .int .i64 (r y))] := ⟨h3, h5, g1, g2, trivial⟩
  have hS := KeepsG.start hCS
  refine wp_region_seq 18 1 [(true, [true, true, true, true, true, true, true, true, false, true, true, false, true, true]), (false, [false, false, false, false, false, false, false, false, true]), (false, [false, false, false, false, false, false, false, false, false, false, false, true]), (false, [false, false, false, false, false, false, false, false, false, false, false, false, false, false, true]), (false, [false, false, false, false, false, false, false, false, false, false, false, false, false, false, false, true]), (false, [false, false, false, false, false, false, false, false, false, false, false, false, false, false, false, false, true]), (false, [false, false, false, false, false, false, false, false, false, false, false, false, false, false, false, false, false, true])] _ _ (fun K => GrD w K ∧ Cells K [(⟨Br, 0, none⟩, .slice (some ⟨R, 0, none⟩) N1 cap), (⟨Bf, 0, none⟩, .func (.func 8) #[] #[.pointer (some ⟨Bl, 0, none⟩), .pointer (some ⟨Bn, 0, none⟩), .pointer (some ⟨Br, 0, none⟩)]), (⟨R, x, none⟩, .int .i64 (r x)), (⟨R, y, none⟩, .int .i64 (r y))]) (by kernel_rfl) (List.take_append_drop 18 _).symm (by kernel_rfl) (by kernel_rfl) (by kernel_rfl) (by kernel_rfl) (hS) (fun Y Q4 F4 hY hF => ?_)
  simp only [phased, List.flatMap_cons, List.flatMap_nil, List.take_succ_cons, List.take_zero, List.drop_succ_cons, List.drop_zero, sel_true, sel_false, sel_nil, List.map_cons, List.map_nil, List.cons_append, List.nil_append, List.append_nil]
  repeat
    apply wpSeq_read (by first | rfl | (rw [hY]; rfl))
    · intro w2 hS2
      (try simp only [Keeps, Cells] at hS2)
      (try simp only [HasC, Cells] at hS2)
      go_simp
      with_reducible rfl
    simp only [Act.put, List.setIfInBounds_toArray, List.set_cons_zero, List.set_cons_succ]
  apply wpSeq_call (by first | rfl | (rw [hY]; rfl))
  · go_simp
    with_reducible exact ⟨rfl, rfl⟩
  refine (HC.out _ _ _).mono ?_
  rintro e w2 ⟨rfl, rfl⟩
  refine ⟨_, rfl, hS, ?_⟩
  simp only [Act.put, List.setIfInBounds_toArray, List.set_cons_zero, List.set_cons_succ]
  apply wpSeq_call (by first | rfl | (rw [hY]; rfl))
  · go_simp
    with_reducible exact ⟨rfl, rfl⟩
  refine (HB.out _ hS.1 x hx).mono ?_
  rintro e w2 ⟨rfl, rfl⟩
  refine ⟨_, rfl, hS, ?_⟩
  simp only [Act.put, List.setIfInBounds_toArray, List.set_cons_zero, List.set_cons_succ]
  apply wpSeq_call (by first | rfl | (rw [hY]; rfl))
  · go_simp
    with_reducible exact ⟨rfl, rfl⟩
  refine (HB.out _ hS.1 y hy).mono ?_
  rintro e w2 ⟨rfl, rfl⟩
  refine ⟨_, rfl, hS, ?_⟩
  simp only [Act.put, List.setIfInBounds_toArray, List.set_cons_zero, List.set_cons_succ]
  apply wpSeq_call (by first | rfl | (rw [hY]; rfl))
  · go_simp
    with_reducible exact ⟨rfl, rfl⟩
  refine (HC.out _ _ _).mono ?_
  rintro e w2 ⟨rfl, rfl⟩
  refine ⟨_, rfl, hS, ?_⟩
  simp only [Act.put, List.setIfInBounds_toArray, List.set_cons_zero, List.set_cons_succ]
  obtain ⟨A, hA⟩ : ∃ A, S17.cmp (r x) (r y) = A := ⟨_, rfl⟩
  obtain ⟨B, hB⟩ : ∃ B, S17.cmp (S17.rest n l r x) (S17.rest n l r y) = B := ⟨_, rfl⟩
  rw [hA, hB] at HO ⊢
  clear hA hB
  have hS2 : GrD w (w.drew.alloc (.cells #[.int .i64 A, .int .i64 B] 3)) := hS.1.alloc _
  have hk2 : GrD w (w.drew.alloc (.cells #[.int .i64 A, .int .i64 B] 3)) ∧ Cells (w.drew.alloc (.cells #[.int .i64 A, .int .i64 B] 3)) _ := ⟨hS2, Cells.step ((Below.refl _ _).alloc (Nat.le_refl _) _) hS.2⟩
  refine wpSeq_value (by first | rfl | (rw [hY]; rfl)) (by go_simp; first | with_reducible exact ⟨rfl, rfl⟩ | with_reducible rfl) (hk2) ?_
  simp only [Act.put, List.setIfInBounds_toArray, List.set_cons_zero, List.set_cons_succ]
  have hbl := Blk.new w.drew [.int .i64 A, .int .i64 B] 3
  apply wpSeq_call (by first | rfl | (rw [hY]; rfl))
  · go_simp
    with_reducible exact ⟨rfl, rfl⟩
  refine (HO.out _ _ (hbl.cell 0) (hbl.cell 1)).mono ?_
  rintro e w2 ⟨rfl, rfl⟩
  refine ⟨_, rfl, hk2, ?_⟩
  simp only [Act.put, List.setIfInBounds_toArray, List.set_cons_zero, List.set_cons_succ]
  refine wpSeq_done (hF.out _ _ (fun K hK => ?_))
  clear hF hY
  go_wp2_with fail
  refine OnlyK.mk (hK.out _ _ ?_)
  clear hK hk2 hbl
  go_wp2
  go_returns
  exact ⟨rfl, ((GrD.refl _).alloc _).drew⟩
end Go.Proofs.Ytalidjgniebohaa
