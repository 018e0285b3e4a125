/- learn and extend (layer 12). No condition. -/
import Derived.Test.YtbfgdaijpcbddaaW12j
set_option linter.unusedSimpArgs false
set_option linter.unusedVariables false
set_option linter.unusedSectionVars false
namespace Go.Proofs.Ytbfgdaijpcbddaa
open Go.RowKit

theorem below_drew (B : Nat) (w : World) : Below B w w.drew := (Below.refl B w).drew

set_option maxHeartbeats 1000000 in
theorem end12_any (S : Nat) (c0 c1 c2 c3 c4 c5 c6 c7 c8 : Value) (w : World) (hB : Blk w S [c0, c1, c2, c3, c4, c5, c6, c7, c8] 60) :
    Calls Try.prog 58 #[.pointer (some ⟨S, 0, none⟩)] w fun e w' => e = .returned (.tuple #[]) ∧ w' = (w.setCell ⟨S, 4, none⟩ (.int .i64 0)).setCell ⟨S, 5, none⟩ (.int .i64 0) := by
  obtain ⟨x0, x1, x2, x3, x4, x5, x6, x7, x8⟩ := hB.nine
  have f4 := hB.free 4
  have f5 := hB.free 5
  go_enter Try.func58, Try.ntmps58
  go_wp2_with fail
  go_returns
  exact ⟨rfl, rfl⟩

set_option maxRecDepth 100000 in
set_option maxHeartbeats 2000000 in
theorem extend12_any (B S gh gc : Nat) (m : S12.M) (p : Pl) (w : World) (h : St B S gh gc m p w) (hl : 0 ≤ m.len ∧ m.len ≤ 255) (ha : 0 ≤ m.at_ ∧ m.at_ ≤ 1000000) :
    Calls Try.prog 36 #[.pointer (some ⟨S, 0, none⟩)] w fun e w' => e = .returned (.tuple #[]) ∧ St B S gh gc (S12.extend m) p w' ∧ Below B w w' ∧ KeepF w w' := by
  have hS := h.hs
  obtain ⟨x0, x1, x2, x3, x4, x5, x6, x7, x8⟩ := h.blk.nine
  have f4 := h.blk.free 4
  have f5 := h.blk.free 5
  have H1 : ∀ W, St B S gh gc m p W → St B S gh gc { m with at_ := m.at_ + 1, len := min (m.len + 1) 255 } p ((W.setCell ⟨S, 4, none⟩ (.int .i64 (m.at_ + 1))).setCell ⟨S, 5, none⟩ (.int .i64 (min (m.len + 1) 255))) := fun W h =>
    (h.put (m' := { m with at_ := m.at_ + 1 }) 4 _ rfl rfl rfl rfl).put (m' := { m with at_ := m.at_ + 1, len := min (m.len + 1) 255 }) 5 _ rfl rfl rfl rfl
  have hdr : Below w.heap.size w w.drew := below_drew _ w
  have lS := h.blk.lt
  unfold S12.extend
  have HS := Lib.hid h
  have H1 := Lib.hid H1
  clear h
  obtain ⟨bits, least, heads, bytes, at_, len, part, bit, ctrs⟩ := m
  simp only at *
  go_enter Try.func36, Try.ntmps36
  by_cases h0 : 0 < len
  · have e0 : decide (0 < len) = true := decide_eq_true h0
    rw [if_pos h0]
    have H2 := Lib.hid (H1.out _ (HS.out.step hdr))
    have w1 : IntKind.i64.wrap (at_ + 1) = at_ + 1 := IntWalk.i64_in _ (by omega)
    have w2 : IntKind.i64.wrap (len + 1) = len + 1 := IntWalk.i64_in _ (by omega)
    clear H1
    go_wp2_with fail
    refine wp_region_useq 18 19 4 [(.p, [true, true, true, true, true, true]), (.r, [false, false, false, false, false, false, true]), (.p, [false, false, false, false, false, false, false, true, true, true, true, true]), (.r, [false, false, false, false, false, false, false, false, false, false, false, false, true]), (.p, [false, false, false, false, false, false, false, false, false, false, false, false, false, true, true, true, true, true]), (.l, [false, false, false, false, false, false, false, false, false, false, false, false, false, false, false, false, false, false, true])] _ _ (HasC [(⟨S, 4, none⟩, .int .i64 at_), (⟨S, 5, none⟩, .int .i64 len)]) (by kernel_rfl) (List.take_append_drop 19 _).symm (by kernel_rfl) (by kernel_rfl) (by kernel_rfl) (by kernel_rfl) (⟨x4, x5, trivial⟩) (fun Y Q4 F4 hY hF => ?_)
    simp only [phasedU, List.flatMap_cons, List.flatMap_nil, List.take_succ_cons, List.take_zero, List.drop_succ_cons, List.drop_zero, sel_true, sel_false, sel_nil, List.map_cons, List.map_nil, List.cons_append, List.nil_append, List.append_nil]
    repeat
      first
        | (apply wpSeqU_pure (by first | rfl | (rw [hY]; rfl))
           · intro w2
             go_simp
             with_reducible rfl
           simp only [Act.put, List.setIfInBounds_toArray, List.set_cons_zero, List.set_cons_succ])
        | (apply wpSeqU_read (by first | rfl | (rw [hY]; rfl))
           · intro w2 hS2
             (try simp only [Keeps, Cells] at hS2)
             (try simp only [HasC, Cells] at hS2)
             go_simp
             with_reducible rfl
           simp only [Act.put, List.setIfInBounds_toArray, List.set_cons_zero, List.set_cons_succ])
    refine wpSeqU_last_store (by first | rfl | (rw [hY]; rfl)) (by go_simp; first | with_reducible exact ⟨rfl, rfl⟩ | with_reducible rfl) ?_
    simp only [Act.put, List.setIfInBounds_toArray, List.set_cons_zero, List.set_cons_succ]
    refine wpSeqU_done (hF.out _ _ (fun K hK => ?_))
    clear hF hY
    go_wp2_with fail
    refine OnlyK.mk (hK.out _ _ ?_)
    clear hK
    go_wp2_with fail
    go_returns
    exact ⟨rfl, H2.out, ((below_drew B w).setCell (p := ⟨S, 4, none⟩) hS _).setCell (p := ⟨S, 5, none⟩) hS _, (KeepF.of hdr).trans ((KeepF.set (HS.out.step hdr).blk (by decide)).trans (KeepF.set ((HS.out.step hdr).blk.set 4 _) (by decide)))⟩
  · have e0 : decide (0 < len) = false := decide_eq_false h0
    rw [if_neg h0]
    go_wp2_with fail
    go_returns
    exact ⟨rfl, HS.out, Below.refl _ _, KeepF.refl _⟩
end Go.Proofs.Ytbfgdaijpcbddaa
