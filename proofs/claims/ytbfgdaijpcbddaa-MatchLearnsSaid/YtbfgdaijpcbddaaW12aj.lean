/- The reference's SameAll (layer 8), Same (layer 12), of models that are the same. No condition. -/
import Derived.Test.YtbfgdaijpcbddaaW12ai
set_option linter.unusedSimpArgs false
set_option linter.unusedVariables false
set_option linter.unusedSectionVars false
namespace Go.Proofs.Ytbfgdaijpcbddaa
open Go.RowKit

theorem wrap_nat_j (k : Nat) (h : k < 9223372036854775808) : IntKind.i64.wrap (k : Int) = k := wrap_i64_nat h

set_option maxHeartbeats 1000000 in
theorem sameAll08_eq (xs : List (Int × Int)) (a b : Option Addr) (ca cb : Nat) (w : World) (hn : xs.length ≤ 100000) (ha : Rd w a (Cts xs)) (hb : Rd w b (Cts xs)) :
    Calls Try.prog 41 #[.slice a xs.length ca, .slice b xs.length cb] w fun e w' => e = .returned (.bool true) ∧ Below w.heap.size w w' := by
  obtain ⟨n, hnn⟩ : ∃ n, xs.length = n := ⟨_, rfl⟩
  have hat : ∀ k, k < n → ∃ x : Int × Int, (Cts xs)[k * 2]? = some (.int .i64 x.1) ∧ (Cts xs)[k * 2 + 1]? = some (.int .i64 x.2) := fun k hk => ⟨xs[k]'(by omega), Cts_at (by omega)⟩
  have Hat := Lib.hid hat
  have Hne := Lib.hid (fun (e : Cts xs = []) => show n = 0 by have := congrArg List.length e; rw [Cts_length] at this; simp at this; omega)
  rw [hnn] at hn ⊢
  clear hat hnn
  go_enter Try.func41, Try.ntmps41
  go_wp2_with fail
  go_loopw [5] (fun i wr => ∃ k : Nat, k ≤ n ∧ i = .int .i64 k ∧ Below w.heap.size w wr)
    (fun i _ => n - (intOf i).toNat)
  case atStart => exact ⟨0, by omega, rfl, by go_grown⟩
  case round =>
    obtain ⟨k, hk, rfl, hB⟩ := hrel
    by_cases hlt : k < n
    · have hl4 : (k : Int) < (n : Int) := by omega
      have hne : Cts xs ≠ [] := fun e => by have := Hne.out e; omega
      obtain ⟨⟨x0, x1⟩, hx0, hx1⟩ := Hat.out k hlt
      obtain ⟨ba, oa, rfl, hra⟩ := (ha.step hB) hne
      obtain ⟨bb, ob, rfl, hrb⟩ := (hb.step hB) hne
      have c1 := hra (k * 2) _ hx0
      have c2 := hra (k * 2 + 1) _ hx1
      have c3 := hrb (k * 2) _ hx0
      have c4 := hrb (k * 2 + 1) _ hx1
      rw [← Nat.add_assoc] at c2 c4
      simp only at c1 c2 c3 c4
      clear hra hrb hx0 hx1 hne
      have hC : HasC [(⟨ba, oa + k * 2, none⟩, .int .i64 x0), (⟨ba, oa + k * 2 + 1, none⟩, .int .i64 x1), (⟨bb, ob + k * 2, none⟩, .int .i64 x0), (⟨bb, ob + k * 2 + 1, none⟩, .int .i64 x1)] wr := ⟨c1, c2, c3, c4, trivial⟩
      have hk0 : 0 ≤ (k : Int) := by omega
      have hB4 := hB.drew
      go_wp2_with fail
      refine wp_region_seq 9 0 [(true, [true, true, true, true, true, true, true, true, true])] _ _ (HasC [(⟨ba, oa + k * 2, none⟩, .int .i64 x0), (⟨ba, oa + k * 2 + 1, none⟩, .int .i64 x1), (⟨bb, ob + k * 2, none⟩, .int .i64 x0), (⟨bb, ob + k * 2 + 1, none⟩, .int .i64 x1)]) (by kernel_rfl) (List.take_append_drop 9 _).symm (by kernel_rfl) (by kernel_rfl) (by kernel_rfl) (by kernel_rfl) (hC) (fun Y Q4 F4 hY hF => ?_)
      simp only [phased, List.flatMap_cons, List.flatMap_nil, List.take_succ_cons, List.take_zero, List.drop_succ_cons, List.drop_zero, sel_true, sel_false, sel_nil, List.map_cons, List.map_nil, List.cons_append, List.nil_append, List.append_nil]
      repeat
        apply wpSeq_read (by first | rfl | (rw [hY]; rfl))
        · intro w2 hS2
          (try simp only [Keeps, Cells] at hS2)
          (try simp only [HasC, Cells] at hS2)
          go_simp
          with_reducible rfl
        simp only [Act.put, List.setIfInBounds_toArray, List.set_cons_zero, List.set_cons_succ]
      repeat
        first
          | (apply wpSeq_unread (by rw [hY]; rfl)
             simp only [Act.put, List.setIfInBounds_toArray, List.set_cons_zero, List.set_cons_succ])
          | (apply wpSeq_read (by first | rfl | (rw [hY]; rfl))
             · intro w2 hS2
               (try simp only [Keeps, Cells] at hS2)
               (try simp only [HasC, Cells] at hS2)
               go_simp
               with_reducible rfl
             simp only [Act.put, List.setIfInBounds_toArray, List.set_cons_zero, List.set_cons_succ])
      refine wpSeq_done (hF.out _ _ (fun K hK => ?_))
      clear hF hY
      go_wp2_with fail
      refine OnlyK.mk (hK.out _ _ ?_)
      clear hK
      go_wp2
      go_roundw
      case rel => exact ⟨k + 1, by omega, by go_num, hB4⟩
      case measure => simp [intOf]; omega
    · obtain rfl : k = n := by omega
      go_wp2
      go_returns
      exact ⟨rfl, hB⟩

set_option maxRecDepth 100000 in
set_option maxHeartbeats 4000000 in
theorem rsame12_eq (m : S12.M) (p q : Pl) (w : World) (hp : MIs m p w) (hq : MIs m q w) (hc : m.ctrs.length ≤ 100000) :
    Calls Try.prog 20 #[MV m p, MV m q] w fun e w' => e = .returned (.bool true) ∧ Below w.heap.size w w' := by
  have HP := Lib.hid hp
  have HQ := Lib.hid hq
  have lh := hp.lh
  have lb := hp.lb
  clear hp hq
  obtain ⟨bits, least, heads, bytes, at_, len, part, bit, ctrs⟩ := m
  obtain ⟨a1h, c1h, a1b, c1b, a1c, c1c⟩ := p
  obtain ⟨a2h, c2h, a2b, c2b, a2c, c2c⟩ := q
  simp only at lh lb hc
  have HA := Lib.hid fun W h1 h2 => sameAll08_eq ctrs a1c a2c c1c c2c W hc h1 h2
  unfold MV MVals
  simp only
  have B0 := Blk.new w [.int .i64 bits, .int .i64 least, .slice a1h heads.length c1h, .slice a1b bytes.length c1b, .int .i64 at_, .int .i64 len, .int .i64 part, .int .i64 bit, .slice a1c ctrs.length c1c] 27
  have hB0 : Below w.heap.size w (w.alloc (.cells #[.int .i64 bits, .int .i64 least, .slice a1h heads.length c1h, .slice a1b bytes.length c1b, .int .i64 at_, .int .i64 len, .int .i64 part, .int .i64 bit, .slice a1c ctrs.length c1c] 27)) := (Below.refl _ _).alloc (Nat.le_refl _) _
  obtain ⟨w0, hw0⟩ : ∃ w0, (w.alloc (.cells #[.int .i64 bits, .int .i64 least, .slice a1h heads.length c1h, .slice a1b bytes.length c1b, .int .i64 at_, .int .i64 len, .int .i64 part, .int .i64 bit, .slice a1c ctrs.length c1c] 27)) = w0 := ⟨_, rfl⟩
  rw [hw0] at hB0
  have A0 : Blk w0 w.heap.size [.int .i64 bits, .int .i64 least, .slice a1h heads.length c1h, .slice a1b bytes.length c1b, .int .i64 at_, .int .i64 len, .int .i64 part, .int .i64 bit, .slice a1c ctrs.length c1c] 27 := by rw [← hw0]; exact B0
  clear B0
  have B1 := Blk.new w0 [.int .i64 bits, .int .i64 least, .slice a2h heads.length c2h, .slice a2b bytes.length c2b, .int .i64 at_, .int .i64 len, .int .i64 part, .int .i64 bit, .slice a2c ctrs.length c2c] 27
  have hb1 : Below w0.heap.size w0 (w0.alloc (.cells #[.int .i64 bits, .int .i64 least, .slice a2h heads.length c2h, .slice a2b bytes.length c2b, .int .i64 at_, .int .i64 len, .int .i64 part, .int .i64 bit, .slice a2c ctrs.length c2c] 27)) := (Below.refl _ _).alloc (Nat.le_refl _) _
  obtain ⟨w1, hw1⟩ : ∃ w1, (w0.alloc (.cells #[.int .i64 bits, .int .i64 least, .slice a2h heads.length c2h, .slice a2b bytes.length c2b, .int .i64 at_, .int .i64 len, .int .i64 part, .int .i64 bit, .slice a2c ctrs.length c2c] 27)) = w1 := ⟨_, rfl⟩
  rw [hw1] at hb1
  have C1 : Blk w1 w0.heap.size [.int .i64 bits, .int .i64 least, .slice a2h heads.length c2h, .slice a2b bytes.length c2b, .int .i64 at_, .int .i64 len, .int .i64 part, .int .i64 bit, .slice a2c ctrs.length c2c] 27 := by rw [← hw1]; exact B1
  have A1 := A0.step hb1
  have hB1 := below_trans hB0 hb1
  have hz : w0.heap.size = w.heap.size + 1 := by rw [← hw0]; simp
  clear B1 A0
  rw [hz] at C1
  obtain ⟨x0, x1, x2, x3, x4, x5, x6, x7, x8⟩ := A1.nine
  obtain ⟨y0, y1, y2, y3, y4, y5, y6, y7, y8⟩ := C1.nine
  obtain ⟨st, hst⟩ : ∃ st, strOfNums bytes = st := ⟨_, rfl⟩
  have hcv1 := conv12 bytes a1b c1b w1 (HP.out.rdb.step hB1)
  have hcv2 := conv12 bytes a2b c2b w1 (HQ.out.rdb.step hB1)
  try simp only at hcv1 hcv2
  rw [hst] at hcv1 hcv2
  clear hst hb1 hB0
  go_enter Try.func20, Try.ntmps20
  go_wp2_with fail
  clear x0 x1 x3 x4 x5 x6 x7 y0 y1 y3 y4 y5 y6 y7 x2 x8 y2 y8 hcv1 hcv2 hw0 hw1
  go_loopw [5] (fun i wr => ∃ k : Nat, k ≤ heads.length ∧ i = .int .i64 (k : Int) ∧ Blk wr w.heap.size [.int .i64 bits, .int .i64 least, .slice a1h heads.length c1h, .slice a1b bytes.length c1b, .int .i64 at_, .int .i64 len, .int .i64 part, .int .i64 bit, .slice a1c ctrs.length c1c] 27 ∧ Blk wr (w.heap.size + 1) [.int .i64 bits, .int .i64 least, .slice a2h heads.length c2h, .slice a2b bytes.length c2b, .int .i64 at_, .int .i64 len, .int .i64 part, .int .i64 bit, .slice a2c ctrs.length c2c] 27 ∧ Below w.heap.size w wr) (fun i _ => heads.length - (intOf i).toNat)
  case atStart => exact ⟨0, by omega, rfl, A1, C1, hB1⟩
  case round =>
    obtain ⟨k, hk, rfl, A2, C2, hB⟩ := hrel
    clear A1 C1 hB1
    have x2 : wr.cell? ⟨w.heap.size, 2, none⟩ = some (.slice a1h heads.length c1h) := A2.cell 2
    have x8 : wr.cell? ⟨w.heap.size, 8, none⟩ = some (.slice a1c ctrs.length c1c) := A2.cell 8
    have y2 : wr.cell? ⟨w.heap.size + 1, 2, none⟩ = some (.slice a2h heads.length c2h) := C2.cell 2
    have y8 : wr.cell? ⟨w.heap.size + 1, 8, none⟩ = some (.slice a2c ctrs.length c2c) := C2.cell 8
    by_cases hlt : k < heads.length
    · have hdk : decide ((k : Int) < (heads.length : Int)) = true := decide_eq_true (by omega)
      obtain ⟨g1, o1, rfl, hcs1⟩ := (HP.out.rdh.step hB).at (i := k) (by rw [Ints_length]; exact hlt)
      obtain ⟨g2, o2, rfl, hcs2⟩ := (HQ.out.rdh.step hB).at (i := k) (by rw [Ints_length]; exact hlt)
      have hc1 : wr.cell? ⟨g1, o1 + k, none⟩ = some (.int .i64 heads[k]) := by rw [hcs1 k (by rw [Ints_length]; exact hlt)]; simp [Ints]
      have hc2 : wr.cell? ⟨g2, o2 + k, none⟩ = some (.int .i64 heads[k]) := by rw [hcs2 k (by rw [Ints_length]; exact hlt)]; simp [Ints]
      obtain ⟨x, hx⟩ : ∃ x, heads[k] = x := ⟨_, rfl⟩
      rw [hx] at hc1 hc2
      clear hcs1 hcs2 hx
      have hC : HasC [(⟨w.heap.size, 2, none⟩, .slice (some ⟨g1, o1, none⟩) heads.length c1h), (⟨w.heap.size + 1, 2, none⟩, .slice (some ⟨g2, o2, none⟩) heads.length c2h), (⟨g1, o1 + k, none⟩, .int .i64 x), (⟨g2, o2 + k, none⟩, .int .i64 x)] wr := ⟨x2, y2, hc1, hc2, trivial⟩
      have hB4 := hB.drew
      have A3 := A2.step (below_drew wr.heap.size wr)
      have C3 := C2.step (below_drew wr.heap.size wr)
      go_wp2_with fail
      refine wp_region_seq 11 0 [(true, [true, true, true, true, true, true, true, true, true, true, true])] _ _ (HasC [(⟨w.heap.size, 2, none⟩, .slice (some ⟨g1, o1, none⟩) heads.length c1h), (⟨w.heap.size + 1, 2, none⟩, .slice (some ⟨g2, o2, none⟩) heads.length c2h), (⟨g1, o1 + k, none⟩, .int .i64 x), (⟨g2, o2 + k, none⟩, .int .i64 x)]) (by kernel_rfl) (List.take_append_drop 11 _).symm (by kernel_rfl) (by kernel_rfl) (by kernel_rfl) (by kernel_rfl) (hC) (fun Y Q4 F4 hY hF => ?_)
      simp only [phased, List.flatMap_cons, List.flatMap_nil, List.take_succ_cons, List.take_zero, List.drop_succ_cons, List.drop_zero, sel_true, sel_false, sel_nil, List.map_cons, List.map_nil, List.cons_append, List.nil_append, List.append_nil]
      repeat
        apply wpSeq_read (by first | rfl | (rw [hY]; rfl))
        · intro w2 hS2
          (try simp only [Keeps, Cells] at hS2)
          (try simp only [HasC, Cells] at hS2)
          go_simp
          with_reducible rfl
        simp only [Act.put, List.setIfInBounds_toArray, List.set_cons_zero, List.set_cons_succ]
      repeat
        first
          | (apply wpSeq_unread (by rw [hY]; rfl)
             simp only [Act.put, List.setIfInBounds_toArray, List.set_cons_zero, List.set_cons_succ])
          | (apply wpSeq_read (by first | rfl | (rw [hY]; rfl))
             · intro w2 hS2
               (try simp only [Keeps, Cells] at hS2)
               (try simp only [HasC, Cells] at hS2)
               go_simp
               with_reducible rfl
             simp only [Act.put, List.setIfInBounds_toArray, List.set_cons_zero, List.set_cons_succ])
      refine wpSeq_done (hF.out _ _ (fun K hK => ?_))
      clear hF hY
      go_wp2_with fail
      refine OnlyK.mk (hK.out _ _ ?_)
      clear hK
      go_wp2
      go_roundw
      case rel => exact ⟨k + 1, by omega, by go_num, A3, C3, hB4⟩
      case measure => simp [intOf]; omega
    · obtain rfl : k = heads.length := by omega
      have hdk : decide ((heads.length : Int) < (heads.length : Int)) = false := decide_eq_false (by omega)
      go_wp2_with fail
      refine (HA.out _ (HP.out.rdc.step hB) (HQ.out.rdc.step hB)).mono ?_
      rintro e w5 ⟨rfl, hb5⟩
      have hB5 := below_trans hB hb5
      go_wp2_with fail
      go_returns
      exact ⟨rfl, hB5⟩
end Go.Proofs.Ytbfgdaijpcbddaa
