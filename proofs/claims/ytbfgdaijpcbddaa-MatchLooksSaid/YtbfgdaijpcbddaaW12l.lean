/- learn (layer 12). No condition. -/
import Derived.Test.YtbfgdaijpcbddaaW12k
set_option linter.unusedSimpArgs false
set_option linter.unusedVariables false
set_option linter.unusedSectionVars false
namespace Go.Proofs.Ytbfgdaijpcbddaa
open Go.RowKit

theorem S12.upd_ok {p n r : Int} (h : S08.check p n 255 = 0) (hr : r = 0 ∨ r = 1) (w : World) :
    Calls Try.prog 57 #[.agg #[.int .i64 p, .int .i64 n], .int .i64 r, .int .i64 255] w fun e w' => e = .returned (.tuple #[.agg #[.int .i64 (S08.step p n r), .int .i64 (min (n + 1) 255)], .int .i64 0]) ∧ Below w.heap.size w w' := by
  have h1 := update08_any p n r 255 w
  rw [S08.updateV_ok (by unfold S08.updateE; rw [if_neg (by omega), if_neg (by omega)])] at h1
  exact h1
set_option maxRecDepth 100000 in
set_option maxHeartbeats 2000000 in
theorem learn12_any (B S gh gc : Nat) (m : S12.M) (p : Pl) (b : Int) (w : World) (h : St B S gh gc m p w) (hc : m.ctrs.length = 16) (hck : ∀ c ∈ m.ctrs, S08.check c.1 c.2 255 = 0) (hl : 0 ≤ m.len) :
    Calls Try.prog 35 #[.pointer (some ⟨S, 0, none⟩), .int .i64 b] w fun e w' => e = .returned (.int .i64 0) ∧ St B S gh gc (S12.learn m b) p w' ∧ Below B w w' := by
  have hS := h.hs
  have hgc := h.hc
  have hBw : B ≤ w.heap.size := Nat.le_trans hS (Nat.le_of_lt h.blk.lt)
  obtain ⟨x0, x1, x2, x3, x4, x5, x6, x7, x8⟩ := h.blk.nine
  have lS := h.blk.lt
  have lc := h.oc.lt
  by_cases h0 : m.len = 0
  · have e0 : S12.learn m b = m := by unfold S12.learn; rw [if_pos h0]
    rw [e0]
    rw [h0] at x5
    have HS := Lib.hid h
    clear h hck h0 e0
    go_enter Try.func35, Try.ntmps35
    go_wp2_with fail
    go_returns
    exact ⟨rfl, HS.out, Below.refl _ _⟩
  obtain ⟨k, hk⟩ : ∃ k : Nat, min m.len.toNat 15 = k := ⟨_, rfl⟩
  obtain ⟨cp, hcp⟩ : ∃ cp, m.ctrs.getD k (0, 0) = cp := ⟨_, rfl⟩
  have hk16 : k < m.ctrs.length := by omega
  have hok : S08.check cp.1 cp.2 255 = 0 := hck cp (by rw [← hcp, S12.getD_in _ _ hk16]; exact List.getElem_mem hk16)
  have hU := fun r (hr : r = 0 ∨ r = 1) => S12.upd_ok hok hr
  have y1 : w.cell? ⟨gc, k * 2, none⟩ = some (.int .i64 cp.1) := by
    rw [h.oc.cell (by rw [Cts_length]; omega), (Cts_at hk16).1, ← hcp, S12.getD_in _ _ hk16]
  have y2 : w.cell? ⟨gc, k * 2 + 1, none⟩ = some (.int .i64 cp.2) := by
    rw [h.oc.cell (by rw [Cts_length]; omega), (Cts_at hk16).2, ← hcp, S12.getD_in _ _ hk16]
  have hlearn : S12.learn m b = if b = m.bit then { m with ctrs := m.ctrs.set k (S08.step cp.1 cp.2 1, min (cp.2 + 1) 255) } else { m with ctrs := m.ctrs.set k (S08.step cp.1 cp.2 0, min (cp.2 + 1) 255), at_ := 0, len := 0 } := by
    unfold S12.learn
    rw [if_neg h0, hk, hcp]
  have HCo := Lib.hid fun W (hb : Below w.heap.size w W) => counter12_any S m p W (h.blk.step hb) hc (by omega) gc 0 h.pc
  rw [hk] at HCo
  simp only [Nat.zero_add] at HCo
  have HU := Lib.hid hU
  have HSt := Lib.hid h
  have e0 : (m.len == 0) = false := by simp [h0]
  have H16 := Lib.hid hk16
  clear hU hck hok hcp hk h0 hl h hc hk16
  obtain ⟨p0, p1⟩ := cp
  simp only at y1 y2 hlearn HU
  obtain ⟨n1, hn1⟩ : ∃ n1, min (p1 + 1) 255 = n1 := ⟨_, rfl⟩
  rw [hn1] at hlearn HU
  clear hn1
  by_cases hbit : b = m.bit
  all_goals
    first | rw [if_pos hbit] at hlearn | rw [if_neg hbit] at hlearn
    rw [hlearn]
    clear hlearn
  · have eb : (b == m.bit) = true := by simp [hbit]
    have HU1 := Lib.hid (HU.out 1 (.inr rfl))
    obtain ⟨s1, hs1⟩ : ∃ s1, S08.step p0 p1 1 = s1 := ⟨_, rfl⟩
    rw [hs1] at HU1 ⊢
    clear HU hs1 hbit
    go_enter Try.func35, Try.ntmps35
    go_wp2_with fail
    refine (HCo.out _ (Below.refl _ _)).mono ?_
    rintro e w1 ⟨rfl, hb1⟩
    have y3 := (hb1.cell (p := ⟨gc, k * 2, none⟩) lc).trans y1
    have y4 := (hb1.cell (p := ⟨gc, k * 2 + 1, none⟩) lc).trans y2
    go_wp2_with fail
    refine (HU1.out _).mono ?_
    rintro e w2 ⟨rfl, hb2⟩
    have hB2 := below_trans hb1 hb2
    go_wp2_with fail
    obtain ⟨w3, hw3⟩ : ∃ w3, w2.alloc (Obj.cells #[Value.int IntKind.i64 s1, Value.int IntKind.i64 n1] 35) = w3 := ⟨_, rfl⟩
    have hb3 : Below w2.heap.size w2 w3 := by rw [← hw3]; exact (Below.refl _ _).alloc (Nat.le_refl _) _
    have C3 : Blk w3 w2.heap.size [.int .i64 s1, .int .i64 n1] 35 := by rw [← hw3]; exact Blk.new w2 _ _
    have hB3 := below_trans hB2 hb3
    have hC3 : Cells w3 [(⟨w2.heap.size, 0, none⟩, .int .i64 s1), (⟨w2.heap.size, 1, none⟩, .int .i64 n1)] := ⟨C3.cell 0, C3.cell 1, trivial⟩
    rw [hw3]
    refine wp_region_seq 3 2 [(true, [true, false, true]), (false, [false, true])] _ _ (Keeps w3 [(⟨w2.heap.size, 0, none⟩, .int .i64 s1), (⟨w2.heap.size, 1, none⟩, .int .i64 n1)]) (by kernel_rfl) (List.take_append_drop 3 _).symm (by kernel_rfl) (by kernel_rfl) (by kernel_rfl) (by kernel_rfl) (Keeps.start hC3) (fun Y Q4 F4 hY hF => ?_)
    simp only [phased, List.flatMap_cons, List.flatMap_nil, List.take_succ_cons, List.take_zero, List.drop_succ_cons, List.drop_zero, sel_true, sel_false, sel_nil, List.map_cons, List.map_nil, List.cons_append, List.nil_append, List.append_nil]
    repeat
      apply wpSeq_read (by first | rfl | (rw [hY]; rfl))
      · intro w2 hS2
        (try simp only [Keeps, Cells] at hS2)
        (try simp only [HasC, Cells] at hS2)
        go_simp
        with_reducible rfl
      simp only [Act.put, List.setIfInBounds_toArray, List.set_cons_zero, List.set_cons_succ]
    apply wpSeq_call (by first | rfl | (rw [hY]; rfl))
    · go_simp
      with_reducible exact ⟨rfl, rfl⟩
    refine (HCo.out _ (below_trans hB3 (Keeps.start hC3).1)).mono ?_
    rintro e w4 ⟨rfl, hb4⟩
    refine ⟨_, rfl, (Keeps.start hC3).step hb4, ?_⟩
    simp only [Act.put, List.setIfInBounds_toArray, List.set_cons_zero, List.set_cons_succ]
    refine wpSeq_done (hF.out _ _ (fun K hK => ?_))
    clear hF hY
    have hB4 : Below w.heap.size w w4 := below_trans hB3 (below_trans (Keeps.start hC3).1 hb4)
    have S4 := HSt.out.step hB4
    have g1 := S4.oc.free (k * 2)
    have g2 := S4.oc.free (k * 2 + 1)
    have y5 := (hB4.cell (p := ⟨gc, k * 2, none⟩) lc).trans y1
    have y6 := (hB4.cell (p := ⟨gc, k * 2 + 1, none⟩) lc).trans y2
    have S5 := Lib.hid (S4.putC k H16.out s1 n1)
    have hB5 : Below B w ((w4.setCell ⟨gc, k * 2, none⟩ (.int .i64 s1)).setCell ⟨gc, k * 2 + 1, none⟩ (.int .i64 n1)) := ((hB4.mono hBw).setCell (p := ⟨gc, k * 2, none⟩) hgc _).setCell (p := ⟨gc, k * 2 + 1, none⟩) hgc _
    clear y3 y4 hC3 S4
    go_wp2_with fail
    refine OnlyK.mk (hK.out _ _ ?_)
    clear hK
    go_wp2_with fail
    first
      | (go_returns
         exact ⟨rfl, S5.out, hB5⟩)
      | (refine (end12_any S _ _ _ _ _ _ _ _ _ _ S5.out.blk).mono ?_
         rintro e w6 ⟨rfl, rfl⟩
         go_wp2_with fail
         go_returns
         exact ⟨rfl, (S5.out.put (m' := { m with ctrs := m.ctrs.set k (s1, n1), at_ := 0 }) 4 _ rfl rfl rfl rfl).put (m' := { m with ctrs := m.ctrs.set k (s1, n1), at_ := 0, len := 0 }) 5 _ rfl rfl rfl rfl, (hB5.setCell (p := ⟨S, 4, none⟩) hS _).setCell (p := ⟨S, 5, none⟩) hS _⟩)
  · have eb : (b == m.bit) = false := by simp [hbit]
    have HU1 := Lib.hid (HU.out 0 (.inl rfl))
    obtain ⟨s1, hs1⟩ : ∃ s1, S08.step p0 p1 0 = s1 := ⟨_, rfl⟩
    rw [hs1] at HU1 ⊢
    clear HU hs1 hbit
    go_enter Try.func35, Try.ntmps35
    go_wp2_with fail
    refine (HCo.out _ (Below.refl _ _)).mono ?_
    rintro e w1 ⟨rfl, hb1⟩
    have y3 := (hb1.cell (p := ⟨gc, k * 2, none⟩) lc).trans y1
    have y4 := (hb1.cell (p := ⟨gc, k * 2 + 1, none⟩) lc).trans y2
    go_wp2_with fail
    refine (HU1.out _).mono ?_
    rintro e w2 ⟨rfl, hb2⟩
    have hB2 := below_trans hb1 hb2
    go_wp2_with fail
    obtain ⟨w3, hw3⟩ : ∃ w3, w2.alloc (Obj.cells #[Value.int IntKind.i64 s1, Value.int IntKind.i64 n1] 35) = w3 := ⟨_, rfl⟩
    have hb3 : Below w2.heap.size w2 w3 := by rw [← hw3]; exact (Below.refl _ _).alloc (Nat.le_refl _) _
    have C3 : Blk w3 w2.heap.size [.int .i64 s1, .int .i64 n1] 35 := by rw [← hw3]; exact Blk.new w2 _ _
    have hB3 := below_trans hB2 hb3
    have hC3 : Cells w3 [(⟨w2.heap.size, 0, none⟩, .int .i64 s1), (⟨w2.heap.size, 1, none⟩, .int .i64 n1)] := ⟨C3.cell 0, C3.cell 1, trivial⟩
    rw [hw3]
    refine wp_region_seq 3 2 [(true, [true, false, true]), (false, [false, true])] _ _ (Keeps w3 [(⟨w2.heap.size, 0, none⟩, .int .i64 s1), (⟨w2.heap.size, 1, none⟩, .int .i64 n1)]) (by kernel_rfl) (List.take_append_drop 3 _).symm (by kernel_rfl) (by kernel_rfl) (by kernel_rfl) (by kernel_rfl) (Keeps.start hC3) (fun Y Q4 F4 hY hF => ?_)
    simp only [phased, List.flatMap_cons, List.flatMap_nil, List.take_succ_cons, List.take_zero, List.drop_succ_cons, List.drop_zero, sel_true, sel_false, sel_nil, List.map_cons, List.map_nil, List.cons_append, List.nil_append, List.append_nil]
    repeat
      apply wpSeq_read (by first | rfl | (rw [hY]; rfl))
      · intro w2 hS2
        (try simp only [Keeps, Cells] at hS2)
        (try simp only [HasC, Cells] at hS2)
        go_simp
        with_reducible rfl
      simp only [Act.put, List.setIfInBounds_toArray, List.set_cons_zero, List.set_cons_succ]
    apply wpSeq_call (by first | rfl | (rw [hY]; rfl))
    · go_simp
      with_reducible exact ⟨rfl, rfl⟩
    refine (HCo.out _ (below_trans hB3 (Keeps.start hC3).1)).mono ?_
    rintro e w4 ⟨rfl, hb4⟩
    refine ⟨_, rfl, (Keeps.start hC3).step hb4, ?_⟩
    simp only [Act.put, List.setIfInBounds_toArray, List.set_cons_zero, List.set_cons_succ]
    refine wpSeq_done (hF.out _ _ (fun K hK => ?_))
    clear hF hY
    have hB4 : Below w.heap.size w w4 := below_trans hB3 (below_trans (Keeps.start hC3).1 hb4)
    have S4 := HSt.out.step hB4
    have g1 := S4.oc.free (k * 2)
    have g2 := S4.oc.free (k * 2 + 1)
    have y5 := (hB4.cell (p := ⟨gc, k * 2, none⟩) lc).trans y1
    have y6 := (hB4.cell (p := ⟨gc, k * 2 + 1, none⟩) lc).trans y2
    have S5 := Lib.hid (S4.putC k H16.out s1 n1)
    have hB5 : Below B w ((w4.setCell ⟨gc, k * 2, none⟩ (.int .i64 s1)).setCell ⟨gc, k * 2 + 1, none⟩ (.int .i64 n1)) := ((hB4.mono hBw).setCell (p := ⟨gc, k * 2, none⟩) hgc _).setCell (p := ⟨gc, k * 2 + 1, none⟩) hgc _
    clear y3 y4 hC3 S4
    go_wp2_with fail
    refine OnlyK.mk (hK.out _ _ ?_)
    clear hK
    go_wp2_with fail
    first
      | (go_returns
         exact ⟨rfl, S5.out, hB5⟩)
      | (refine (end12_any S _ _ _ _ _ _ _ _ _ _ S5.out.blk).mono ?_
         rintro e w6 ⟨rfl, rfl⟩
         go_wp2_with fail
         go_returns
         exact ⟨rfl, (S5.out.put (m' := { m with ctrs := m.ctrs.set k (s1, n1), at_ := 0 }) 4 _ rfl rfl rfl rfl).put (m' := { m with ctrs := m.ctrs.set k (s1, n1), at_ := 0, len := 0 }) 5 _ rfl rfl rfl rfl, (hB5.setCell (p := ⟨S, 4, none⟩) hS _).setCell (p := ⟨S, 5, none⟩) hS _⟩)
end Go.Proofs.Ytbfgdaijpcbddaa
