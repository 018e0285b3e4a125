/- Copies of tables (layer 10). A table's copy (layer 10). No condition. -/
import Derived.Test.YtgbjckjfjoiilaaW10i
set_option linter.unusedSimpArgs false
set_option linter.unusedVariables false
set_option linter.unusedSectionVars false
namespace Go.Proofs.Ytgbjckjfjoiilaa
open Go.RowKit

theorem elems_bytes : Elems Try.prog 24 5 1 1 [.int .u8 0] := ⟨Try.underlying24, by kernel_rfl, rfl, by decide⟩
theorem Bts_one (xs : List Int) : ∀ u ∈ Bts xs, u.oneCell' = true := by
  intro u hu
  obtain ⟨x, _, rfl⟩ := List.mem_map.1 hu
  rfl

/-- Bytes of the call's own: they begin their block. -/
def OB (w : World) (base b cap : Nat) (xs : List Int) : Prop := base ≤ b ∧ xs.length ≤ cap ∧ cap ≤ 9223372036854775807 ∧ ∃ cs, Blk w b cs 5 ∧ cs.take xs.length = Bts xs
theorem OB.lt {w : World} {base b cap : Nat} {xs : List Int} (h : OB w base b cap xs) : b < w.heap.size := by obtain ⟨_, _, _, cs, hb, _⟩ := h; exact hb.lt
theorem OB.step {w w' : World} {base b cap : Nat} {xs : List Int} (h : OB w base b cap xs) (hb : Below w.heap.size w w') : OB w' base b cap xs := by
  obtain ⟨h1, h2, h3, cs, h4, h5⟩ := h
  exact ⟨h1, h2, h3, cs, h4.step hb, h5⟩
theorem OB.at {w : World} {base b cap : Nat} {xs : List Int} (h : OB w base b cap xs) {i : Nat} (hi : i < xs.length) : w.cell? ⟨b, i, none⟩ = some (.int .u8 (xs.getD i 0)) := by
  obtain ⟨h1, h2, h3, cs, h4, h5⟩ := h
  rw [h4.cell i]
  have h6 : (cs.take xs.length)[i]? = (Bts xs)[i]? := by rw [h5]
  rw [List.getElem?_take, if_pos hi] at h6
  rw [h6]
  unfold Bts
  rw [List.getElem?_map, List.getElem?_eq_getElem hi, List.getD_eq_getElem?_getD, List.getElem?_eq_getElem hi]
  rfl
theorem OB.free {w : World} {base b cap : Nat} {xs : List Int} (h : OB w base b cap xs) (i : Nat) : w.frozen? ⟨b, i, none⟩ = false := by obtain ⟨_, _, _, cs, hb, _⟩ := h; exact hb.free i
theorem OB.range {w : World} {base b cap : Nat} {xs : List Int} (h : OB w base b cap xs) : w.rangeAt b 0 (Bts xs) := fun j v hv => by
  rw [Nat.zero_add]
  have hj : j < xs.length := by rw [← Bts_length]; exact (List.getElem?_eq_some_iff.1 hv).1
  rw [h.at hj, ← hv]
  unfold Bts
  rw [List.getElem?_map, List.getElem?_eq_getElem hj, List.getD_eq_getElem?_getD, List.getElem?_eq_getElem hj]
  rfl
theorem OB.rd {w : World} {base b cap : Nat} {xs : List Int} (h : OB w base b cap xs) : Rd w (some ⟨b, 0, none⟩) (Bts xs) := fun _ => ⟨b, 0, rfl, h.range⟩
theorem OB.set {w : World} {base b cap : Nat} {xs : List Int} (h : OB w base b cap xs) (i : Nat) (v : Int) : OB (w.setCell ⟨b, i, none⟩ (.int .u8 v)) base b cap (xs.set i v) := by
  obtain ⟨h1, h2, h3, cs, h4, h5⟩ := h
  refine ⟨h1, by rw [List.length_set]; exact h2, h3, _, h4.set i _, ?_⟩
  rw [List.length_set, List.take_set, h5]
  unfold Bts
  rw [List.map_set]
theorem OB.of_owns {w : World} {base base' : Nat} {a : Option Addr} {cap : Nat} {l : List Int} (h : w.ownsRow base 5 1 (.slice a l.length cap) l.length (Bts l)) (hne : 1 ≤ l.length) (hb : base' ≤ base) :
    ∃ b, a = some ⟨b, 0, none⟩ ∧ base ≤ b ∧ OB w base' b cap l := by
  have hl := h.1
  rcases h.2 with ⟨h', h0⟩ | ⟨g, cap', cur, h', hbg, hg, hnc, hcm, hcs, htake⟩
  · omega
  · simp only [Value.slice.injEq, true_and] at h'
    obtain ⟨rfl, rfl⟩ := h'
    unfold maxLen at hcm
    exact ⟨g, rfl, hbg, Nat.le_trans hb hbg, hnc, hcm, cur.toList, hg, by simpa using htake⟩

set_option maxHeartbeats 400000 in
/-- A copy of bytes, of which there is one at least. -/
theorem cloneBytes_any (xs : List Int) (a : Option Addr) (cap : Nat) (w : World) (h1 : 1 ≤ xs.length) (h2 : xs.length ≤ 2162688) (hrd : Rd w a (Bts xs)) :
    Calls Try.prog 71 #[.slice a xs.length cap] w fun e w' => ∃ b cap', e = .returned (.slice (some ⟨b, 0, none⟩) xs.length cap') ∧ OB w' w.heap.size b cap' xs ∧ Below w.heap.size w w' := by
  obtain ⟨g, o, rfl, _⟩ := hrd.at (i := 0) (by rw [Bts_length]; omega)
  have qT : ∀ (w : World) (a : Option Addr) (n c n' c' : Nat), (binOp .eql 24 (.slice a n c) (.slice none n' c')).run Try.prog w = .ok (.bool a.isNone) w := fun w a n c n' c' => Lib.run_eql_slice_nil w _ _ a n c n' c' Try.underlying24
  have hrd' := Lib.hid (hrd.step ((Below.refl w.heap.size w).alloc (Nat.le_refl _) (Obj.cells #[] 5)))
  go_enter Try.func71, Try.ntmps71
  go_wp2_with (at_builtin; refine wpList_append_rd _ _ 24 5 1 1 _ w.heap.size elems_bytes rfl rfl _ 0 [] rfl (World.ownsRow_made w #[] 0 (Nat.le_refl _) (by decide) rfl) (some ⟨g, o, none⟩) xs.length cap (Bts xs) rfl (by simp [Bts]) hrd'.out (Bts_one xs) (by unfold maxLen; omega) (by omega) (by simp) ?_; intro a2 cap2 w2 hown2 hgrow2)
  have hB2 : Below w.heap.size w w2 := Below.grown (by go_grown) hgrow2 (by simp) (fun k e => by cases e; exact Nat.le_refl _)
  simp only [Nat.zero_add, List.nil_append] at hown2
  obtain ⟨b, rfl, hb, hok⟩ := OB.of_owns (base' := w.heap.size) hown2 h1 (Nat.le_refl _)
  have hc := Lib.hid hok
  clear hgrow2 hown2 hok
  go_wp2
  go_returns
  exact ⟨b, cap2, by simp, hc.out, hB2⟩
end Go.Proofs.Ytgbjckjfjoiilaa

namespace Go.Proofs.Ytgbjckjfjoiilaa
open Go.RowKit

theorem OB.other {w : World} {base b cap : Nat} {xs : List Int} (h : OB w base b cap xs) (c i : Nat) (v : Value) (hne : ¬ b = c) : OB (w.setCell ⟨c, i, none⟩ v) base b cap xs := by
  obtain ⟨h1, h2, h3, cs, h4, h5⟩ := h
  exact ⟨h1, h2, h3, cs, h4.other c i v hne, h5⟩
theorem OB.mono {w : World} {base base' b cap : Nat} {xs : List Int} (h : OB w base b cap xs) (hb : base' ≤ base) : OB w base' b cap xs := ⟨Nat.le_trans hb h.1, h.2⟩

set_option maxHeartbeats 1000000 in
theorem clone10_any (bits : Int) (xs : List Int) (a : Option Addr) (cap : Nat) (w : World) (h1 : 1 ≤ xs.length) (h2 : xs.length ≤ 2162688) (hrd : Rd w a (Bts xs)) :
    Calls Try.prog 49 #[tabV bits xs a cap] w fun e w' => ∃ b cap', e = .returned (tabV bits xs (some ⟨b, 0, none⟩) cap') ∧ OB w' w.heap.size b cap' xs ∧ Below w.heap.size w w' := by
  unfold tabV
  have HC := Lib.hid fun W (h : Rd W a (Bts xs)) => cloneBytes_any xs a cap W h1 h2 h
  go_enter Try.func49, Try.ntmps49
  go_wp2
  obtain ⟨w0, hw0⟩ : ∃ w0, (w.alloc (Obj.cells #[.int .i64 bits, .slice a xs.length cap] 26)).alloc (Obj.cells #[.int .i64 0, .slice none 0 0] 26) = w0 := ⟨_, rfl⟩
  have hB0 : Below w.heap.size w w0 := by rw [← hw0]; go_grown
  have a1 : Blk w0 w.heap.size [.int .i64 bits, .slice a xs.length cap] 26 := by rw [← hw0]; exact (Blk.new w _ _).alloc _
  have a2 : Blk w0 (w.heap.size + 1) [.int .i64 0, .slice none 0 0] 26 := by
    have h := Blk.new (w.alloc (Obj.cells #[.int .i64 bits, .slice a xs.length cap] 26)) [.int .i64 0, .slice none 0 0] 26
    rw [← hw0]; simpa using h
  rw [hw0]
  have z0 : w.heap.size + 1 < w0.heap.size := a2.lt
  clear hw0
  have hCS : Cells w0 [(⟨w.heap.size, 0, none⟩, .int .i64 bits), (⟨w.heap.size, 1, none⟩, .slice a xs.length cap)] := ⟨a1.cell 0, a1.cell 1, trivial⟩
  refine wp_region_seq 6 1 [(true, [true, true, true, true]), (false, [false, false, false, false, true]), (true, [false, false, false, false, false, true])] _ _ (Keeps w0 [(⟨w.heap.size, 0, none⟩, .int .i64 bits), (⟨w.heap.size, 1, none⟩, .slice a xs.length cap)]) (by kernel_rfl) (List.take_append_drop 6 _).symm (by kernel_rfl) (by kernel_rfl) (by kernel_rfl) (by kernel_rfl) (Keeps.start hCS) (fun Y Q4 F4 hY hF => ?_)
  simp only [phased, List.flatMap_cons, List.flatMap_nil, List.take_succ_cons, List.take_zero, List.drop_succ_cons, List.drop_zero, sel_true, sel_false, sel_nil, List.map_cons, List.map_nil, List.cons_append, List.nil_append, List.append_nil]
  repeat
    apply wpSeq_read (by first | rfl | (rw [hY]; rfl))
    · intro w2 hS2
      (try simp only [Keeps, Cells] at hS2)
      (try simp only [HasC, Cells] at hS2)
      go_simp
      with_reducible rfl
    simp only [Act.put, List.setIfInBounds_toArray, List.set_cons_zero, List.set_cons_succ]
  apply wpSeq_call (by first | rfl | (rw [hY]; rfl))
  · go_simp
    with_reducible exact ⟨rfl, rfl⟩
  refine (HC.out _ ((hrd.step hB0).step (Keeps.start hCS).1)).mono ?_
  rintro e w2 ⟨b, cap', rfl, ho, hb2⟩
  have hk2 := (Keeps.start hCS).step hb2
  refine ⟨_, rfl, hk2, ?_⟩
  simp only [Act.put, List.setIfInBounds_toArray, List.set_cons_zero, List.set_cons_succ]
  repeat
    apply wpSeq_read (by first | rfl | (rw [hY]; rfl))
    · intro w2 hS2
      (try simp only [Keeps, Cells] at hS2)
      (try simp only [HasC, Cells] at hS2)
      go_simp
      with_reducible rfl
    simp only [Act.put, List.setIfInBounds_toArray, List.set_cons_zero, List.set_cons_succ]
  refine wpSeq_done (hF.out _ _ (fun K hK => ?_))
  clear hF hY
  have e2 := a2.step hk2.1
  have r0 := e2.cell 0
  have r1 := e2.cell 1
  have f0 := e2.free 0
  have f1 := e2.free 1
  go_wp2_with fail
  refine OnlyK.mk (hK.out _ _ ?_)
  clear hK
  have hb0 : w0.heap.size ≤ b := ho.1
  have g := (e2.set 0 (.int .i64 bits)).set 1 (.slice (some ⟨b, 0, none⟩) xs.length cap')
  have g0 := g.cell 0
  have g1 := g.cell 1
  simp only [List.set_cons_zero, List.set_cons_succ, List.getElem?_cons_zero, List.getElem?_cons_succ] at g0 g1
  have ho2 := ((ho.mono (base' := w.heap.size) (by simp; omega)).other (w.heap.size + 1) 0 (.int .i64 bits) (by omega)).other (w.heap.size + 1) 1 (.slice (some ⟨b, 0, none⟩) xs.length cap') (by omega)
  have hBB : Below w.heap.size w ((w2.setCell ⟨w.heap.size + 1, 0, none⟩ (.int .i64 bits)).setCell ⟨w.heap.size + 1, 1, none⟩ (.slice (some ⟨b, 0, none⟩) xs.length cap')) := ((below_trans hB0 hk2.1).setCell (p := ⟨w.heap.size + 1, 0, none⟩) (by simp) _).setCell (p := ⟨w.heap.size + 1, 1, none⟩) (by simp) _
  have Ho2 := Lib.hid ho2
  clear ho ho2 e2 g
  go_wp2
  exact bodyPost_ret (v := .agg #[.int .i64 bits, .slice (some ⟨b, 0, none⟩) xs.length cap']) (by simp [results, Try.results49, go_sem, g0, g1]) rfl ⟨b, cap', rfl, Ho2.out, hBB⟩
end Go.Proofs.Ytgbjckjfjoiilaa
