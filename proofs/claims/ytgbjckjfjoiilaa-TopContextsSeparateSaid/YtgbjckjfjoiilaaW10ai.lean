/- The law SlotsSets, walked. No condition. -/
import Derived.Test.YtgbjckjfjoiilaaW10ah
set_option linter.unusedSimpArgs false
set_option linter.unusedVariables false
set_option linter.unusedSectionVars false
namespace Go.Proofs.Ytgbjckjfjoiilaa
open Go.RowKit

theorem tdiv_small (m : Nat) (h : m ≤ 65536) : ((16 * m : Nat) : Int).tdiv 16 = (m : Int) := by
  rw [Int.tdiv_eq_ediv_of_nonneg (by omega)]; omega
theorem tmod_nat (a b : Nat) : ((a : Int)).tmod (b : Int) = ((a % b : Nat) : Int) := by
  rw [Int.tmod_eq_emod_of_nonneg (by omega)]; simp

set_option maxRecDepth 100000 in
set_option maxHeartbeats 1000000 in
theorem slotsSets_any (b : Nat) (hb : b < 256) (l : List Stp) (hok : ∀ s ∈ l, s.ok) (hlen : l.length ≤ 9223372036854775807) (x0 x1 x2 : Nat) (h0 : x0 < 256) (h1 : x1 < 256) (h2 : x2 < 256) (a : Option Addr) (cap : Nat) (w : World) (hrd : Rd w a (Stps l)) :
    Calls Try.prog 9 #[.int .u8 (b : Int), .slice a l.length cap, .agg #[.int .u8 (x0 : Int), .int .u8 (x1 : Int), .int .u8 (x2 : Int)]] w fun e w' => e = .returned (.bool true) ∧ Below w.heap.size w w' := by
  have HA := Lib.hid awake10_any
  obtain ⟨w0, hw0⟩ : ∃ w0, w.alloc (Obj.cells #[.int .u8 (x0 : Int), .int .u8 (x1 : Int), .int .u8 (x2 : Int)] 69) = w0 := ⟨_, rfl⟩
  have hB0 : Below w.heap.size w w0 := by rw [← hw0]; exact (Below.refl _ w).alloc (Nat.le_refl _) _
  have b0 : Blk w0 w.heap.size [.int .u8 (x0 : Int), .int .u8 (x1 : Int), .int .u8 (x2 : Int)] 69 := by rw [← hw0]; exact Blk.new w _ _
  by_cases hfew : 30 < l.length
  · go_enter Try.func9, Try.ntmps9
    go_wp2_with fail
    refine (HA.out _).mono ?_
    rintro e w1 ⟨rfl, hb1⟩
    have hB1 := below_trans hB0 hb1
    go_wp2
    go_returns
    exact ⟨rfl, hB1⟩
  · obtain ⟨n, hn⟩ : ∃ n, n = b % 6 := ⟨_, rfl⟩
    have hn6 : n < 6 := by omega
    have HBh := Lib.hid fun W h => behind10_any b n hb hn l hok hlen a cap W h
    have hg := Good.runs (n := n) (by omega) hok
    obtain ⟨X, hX⟩ : ∃ X, S10.runs n l = X := ⟨_, rfl⟩
    rw [hX] at HBh hg
    clear hX hn
    have hps := pow_small hg.le
    have hpp := Nat.two_pow_pos n
    have hl := hg.len
    obtain ⟨m, hm⟩ : ∃ m, 2 ^ n = m := ⟨_, rfl⟩
    rw [hm] at hps hpp hl
    obtain ⟨i, hi⟩ : ∃ i, i = x0 % m := ⟨_, rfl⟩
    have him : i < m := by rw [hi]; exact Nat.mod_lt _ hpp
    obtain ⟨k, hk⟩ : ∃ k, k = 1 + x1 % 15 := ⟨_, rfl⟩
    obtain ⟨st, hst⟩ : ∃ st, st = x2 % 215 := ⟨_, rfl⟩
    have hi2 : i < 2 ^ n := by omega
    have hk1 : 1 ≤ k := by omega
    have hk2 : k ≤ 15 := by omega
    have hs2 : (0 : Int) ≤ (st : Int) ∧ (st : Int) < 215 := by omega
    have hin : 16 * i + k < X.length := by omega
    have HS := Lib.hid fun a' cap' W hW => set10_o (n : Int) X (i : Int) (k : Int) (st : Int) a' cap' W hW
    rw [hg.setB hi2 hk1 hk2 hs2, hg.setE hi2 hk1 hk2 hs2, hg.setX hi2 hk1 hk2 hs2] at HS
    have hg2 := hg.set (16 * i + k) (st : Int) ⟨hs2.1, by omega⟩ (fun _ => hs2.2)
    have HG := Lib.hid fun a' cap' W hW => get10_any (n : Int) (X.set (16 * i + k) (st : Int)) (i : Int) (k : Int) a' cap' W hW
    rw [hg2.getN hi2 hk1 hk2, hg2.node hi2 hk1 hk2, getD_set0, if_pos ⟨rfl, hin⟩] at HG
    have hY : ∀ j, j ≠ 16 * i + k → (X.set (16 * i + k) (st : Int)).getD j 0 = X.getD j 0 := fun j hj => by rw [getD_set0, if_neg (fun e => hj e.1.symm)]
    have hYl : (X.set (16 * i + k) (st : Int)).length = X.length := List.length_set
    obtain ⟨Zt, hYY⟩ : ∃ Zt, X.set (16 * i + k) (st : Int) = Zt := ⟨_, rfl⟩
    rw [hYY] at HS HG hg2 hYl
    simp only [hYY] at hY
    have Hg := Lib.hid hg
    have Hg2 := Lib.hid hg2
    have HY := Lib.hid hY
    have Hin := Lib.hid hin
    have HYl := Lib.hid hYl
    have w0' : IntKind.i64.wrap (x0 : Int) = (x0 : Int) := i64_small (by omega) (by omega)
    have w1' : IntKind.i64.wrap (x1 : Int) = (x1 : Int) := i64_small (by omega) (by omega)
    have w2' : IntKind.i64.wrap (x2 : Int) = (x2 : Int) := i64_small (by omega) (by omega)
    have e1 : ((X.length : Int)).tdiv 16 = (m : Int) := by rw [hl]; exact tdiv_small m hps
    have e1' : IntKind.i64.wrap (m : Int) = (m : Int) := i64_small (by omega) (by omega)
    have e2 : ((x0 : Int)).tmod (m : Int) = (i : Int) := by rw [tmod_nat, hi]
    have em0 : ((m : Int) == 0) = false := by simp; omega
    have em1 : ¬ ((m : Int) = 0) := by omega
    have em2 : ¬ (m = 0) := by omega
    have e4 : 1 + (x1 : Int) % 15 = (k : Int) := by omega
    have e4' : IntKind.i64.wrap (k : Int) = (k : Int) := i64_small (by omega) (by omega)
    have e5 : (x2 : Int) % 215 = (st : Int) := by omega
    have HX16 := Lib.hid (show 16 ≤ X.length by omega)
    unfold tabV at *
    clear hYl hg hg2 hY hYY hi hk hst hm hi2 hin hl
    go_enter Try.func9, Try.ntmps9
    go_wp2_with fail
    refine (HBh.out _ (hrd.step hB0)).mono ?_
    rintro e w1 ⟨a1, c1, rfl, hT1, hb1⟩
    have hB1 := below_trans hB0 hb1
    have B1 := b0.step hb1
    obtain ⟨w2, hw2⟩ : ∃ w2, w1.alloc (Obj.cells #[.int .i64 (n : Int), .slice a1 X.length c1] 26) = w2 := ⟨_, rfl⟩
    have hb2 : Below w1.heap.size w1 w2 := by rw [← hw2]; exact (Below.refl _ w1).alloc (Nat.le_refl _) _
    have A2 : Blk w2 w1.heap.size [.int .i64 (n : Int), .slice a1 X.length c1] 26 := by rw [← hw2]; exact Blk.new w1 _ _
    have hB2 := below_trans hB1 hb2
    have B2 := B1.step hb2
    have T2 := hT1.step hb2
    have k0 := A2.cell 0
    have k1 := A2.cell 1
    simp only [List.getElem?_cons_zero, List.getElem?_cons_succ] at k0 k1
    have hX16 := HX16.out
    go_wp2_with fail
    have hC2 : Cells w2 [(⟨w.heap.size, 0, none⟩, .int .u8 (x0 : Int)), (⟨w.heap.size, 1, none⟩, .int .u8 (x1 : Int)), (⟨w.heap.size, 2, none⟩, .int .u8 (x2 : Int)), (⟨w1.heap.size, 1, none⟩, .slice a1 X.length c1)] := ⟨B2.cell 0, B2.cell 1, B2.cell 2, k1, trivial⟩
    refine wp_region_seq 20 1 [(true, [true, true, true, true, true, true, true, true, true, true, true, true, true, true, true, true]), (false, [false, false, false, false, false, false, false, false, false, false, false, false, false, false, false, false, true]), (true, [false, false, false, false, false, false, false, false, false, false, false, false, false, false, false, false, false, true]), (false, [false, false, false, false, false, false, false, false, false, false, false, false, false, false, false, false, false, false, true]), (false, [false, false, false, false, false, false, false, false, false, false, false, false, false, false, false, false, false, false, false, true])] _ _ (Keeps w2 [(⟨w.heap.size, 0, none⟩, .int .u8 (x0 : Int)), (⟨w.heap.size, 1, none⟩, .int .u8 (x1 : Int)), (⟨w.heap.size, 2, none⟩, .int .u8 (x2 : Int)), (⟨w1.heap.size, 1, none⟩, .slice a1 X.length c1)]) (by kernel_rfl) (List.take_append_drop 20 _).symm (by kernel_rfl) (by kernel_rfl) (by kernel_rfl) (by kernel_rfl) (Keeps.start hC2) (fun Y Q4 F4 hY hF => ?_)
    simp only [phased, List.flatMap_cons, List.flatMap_nil, List.take_succ_cons, List.take_zero, List.drop_succ_cons, List.drop_zero, sel_true, sel_false, sel_nil, List.map_cons, List.map_nil, List.cons_append, List.nil_append, List.append_nil]
    repeat
      apply wpSeq_read (by first | rfl | (rw [hY]; rfl))
      · intro w2 hS2
        (try simp only [Keeps, Cells] at hS2)
        (try simp only [HasC, Cells] at hS2)
        go_simp
        with_reducible rfl
      simp only [Act.put, List.setIfInBounds_toArray, List.set_cons_zero, List.set_cons_succ]
    apply wpSeq_call (by first | rfl | (rw [hY]; rfl))
    · go_simp
      with_reducible exact ⟨rfl, rfl⟩
    refine (count09_any _).mono ?_
    rintro e w3 ⟨rfl, hb3⟩
    have hk3 := (Keeps.start hC2).step hb3
    refine ⟨_, rfl, hk3, ?_⟩
    simp only [Act.put, List.setIfInBounds_toArray, List.set_cons_zero, List.set_cons_succ]
    repeat
      apply wpSeq_read (by first | rfl | (rw [hY]; rfl))
      · intro w2 hS2
        (try simp only [Keeps, Cells] at hS2)
        (try simp only [HasC, Cells] at hS2)
        go_simp
        with_reducible rfl
      simp only [Act.put, List.setIfInBounds_toArray, List.set_cons_zero, List.set_cons_succ]
    refine wpSeq_value (by first | rfl | (rw [hY]; rfl)) (by go_simp; first | with_reducible exact ⟨rfl, rfl⟩ | with_reducible rfl) (hk3) ?_
    simp only [Act.put, List.setIfInBounds_toArray, List.set_cons_zero, List.set_cons_succ]
    refine wpSeq_value (by first | rfl | (rw [hY]; rfl)) (by go_simp; first | with_reducible exact ⟨rfl, rfl⟩ | with_reducible rfl) (hk3) ?_
    simp only [Act.put, List.setIfInBounds_toArray, List.set_cons_zero, List.set_cons_succ]
    refine wpSeq_done (hF.out _ _ (fun K hK => ?_))
    clear hF hY
    have hb3' := hk3.1
    have hB3 := below_trans hB2 hb3'
    have A3 := A2.step hb3'
    have T3 := T2.step hb3'
    have k2 := A3.cell 0
    have k3 := A3.cell 1
    simp only [List.getElem?_cons_zero, List.getElem?_cons_succ] at k2 k3
    clear hk3 hb3 hC2
    go_wp2_with fail
    refine OnlyK.mk (hK.out _ _ ?_)
    clear hK
    go_wp2_with fail
    refine (HS.out _ _ _ T3).mono ?_
    rintro e w4 ⟨a4, c4, rfl, hT4, _, hb4⟩
    have hB4 := below_trans hB3 hb4
    have A4 := A3.step hb4
    obtain ⟨w5, hw5⟩ : ∃ w5, w4.alloc (Obj.cells #[.int .i64 (n : Int), .slice a4 Zt.length c4] 26) = w5 := ⟨_, rfl⟩
    have hb5 : Below w4.heap.size w4 w5 := by rw [← hw5]; exact (Below.refl _ w4).alloc (Nat.le_refl _) _
    have D5 : Blk w5 w4.heap.size [.int .i64 (n : Int), .slice a4 Zt.length c4] 26 := by rw [← hw5]; exact Blk.new w4 _ _
    have hB5 := below_trans hB4 hb5
    have A5 := A4.step hb5
    have T5 := hT4.step hb5
    have S5 := (T3.step hb4).step hb5
    have k4 := D5.cell 0
    have k5 := D5.cell 1
    simp only [List.getElem?_cons_zero, List.getElem?_cons_succ] at k4 k5
    go_wp2_with fail
    refine (HG.out _ _ _ T5).mono ?_
    rintro e w6 ⟨rfl, hb6⟩
    have hB6 := below_trans hB5 hb6
    have A6 := A5.step hb6
    have D6 := D5.step hb6
    have T6 := T5.step hb6
    have S6 := S5.step hb6
    have k6 := A6.cell 0
    have k7 := A6.cell 1
    have k8 := D6.cell 0
    have k9 := D6.cell 1
    simp only [List.getElem?_cons_zero, List.getElem?_cons_succ] at k6 k7 k8 k9
    rw [HYl.out] at k9 D6
    clear k0 k1 k2 k3 k4 k5 A2 A3 A4 A5 D5 T2 T3 T5 S5 B1 B2 b0
    go_wp2
    obtain ⟨p, hp⟩ : ∃ p, 16 * i = p := ⟨_, rfl⟩
    have hin := Hin.out
    have eJ1 : IntKind.i64.wrap (16 * (i : Int)) = (p : Int) := (i64_small (by omega) (by omega)).trans (by omega)
    obtain ⟨J, hJ⟩ : ∃ J, 16 * i + k = J := ⟨_, rfl⟩
    have eJ2 : IntKind.i64.wrap ((p : Int) + (k : Int)) = (J : Int) := (i64_small (by omega) (by omega)).trans (by omega)
    have hY2 := HY.out
    rw [hJ] at hY2
    have HY2 := Lib.hid hY2
    have hXl : X.length ≤ 1048576 := by have := Hg.out.len; have := pow_small Hg.out.le; omega
    clear hp hJ hin hY2 e1 e2 e4 e5 em0 em1 em2 hX16
    go_loopw [98] (fun t wr => ∃ q : Nat, q ≤ X.length ∧ t = .int .i64 (q : Int) ∧ Below w6.heap.size w6 wr)
      (fun t _ => X.length - (intOf t).toNat)
    case atStart => exact ⟨0, by omega, rfl, Below.refl _ _⟩
    case round =>
      obtain ⟨q, hq, rfl, hB⟩ := hrel
      have hBr := below_trans hB6 hB
      by_cases hlt : q < X.length
      · have A7 := A6.step hB
        have D7 := D6.step hB
        obtain ⟨g1, o1, rfl, hc1⟩ := (S6.step hB).rd (fun e => by have h1 := congrArg List.length e; rw [Bts_length] at h1; simp only [List.length_nil] at h1; omega)
        obtain ⟨g2, o2, rfl, hc2⟩ := (T6.step hB).rd (fun e => by have h1 := congrArg List.length e; rw [Bts_length, HYl.out] at h1; simp only [List.length_nil] at h1; omega)
        have y1 := hc1 q _ (Bts_at hlt)
        have y2 := hc2 q _ (Bts_at (by rw [HYl.out]; exact hlt))
        have cp1 := S6.cap
        have cp2 := T6.cap
        rw [HYl.out] at cp2
        by_cases hqJ : q = J
        · have eg : ((q : Int) != (J : Int)) = false := by simp only [bne_eq_false_iff_eq]; omega
          have hC3 : Cells wr [(⟨w1.heap.size, 1, none⟩, .slice (some ⟨g1, o1, none⟩) X.length c1)] := ⟨A7.cell 1, trivial⟩
          clear hc1 hc2 y1 y2 A7 D7
          go_wp2
          refine wp_region_seq 19 0 [(true, [true, true, true, true, true, true, true, true, true, true, true, true, true, true, true, true, true, true, true])] _ _ (Keeps wr [(⟨w1.heap.size, 1, none⟩, .slice (some ⟨g1, o1, none⟩) X.length c1)]) (by kernel_rfl) (List.take_append_drop 19 _).symm (by kernel_rfl) (by kernel_rfl) (by kernel_rfl) (by kernel_rfl) (Keeps.start hC3) (fun Y Q4 F4 hY hF => ?_)
          simp only [phased, List.flatMap_cons, List.flatMap_nil, List.take_succ_cons, List.take_zero, List.drop_succ_cons, List.drop_zero, sel_true, sel_false, sel_nil, List.map_cons, List.map_nil, List.cons_append, List.nil_append, List.append_nil]
          repeat
            apply wpSeq_read (by first | rfl | (rw [hY]; rfl))
            · intro w2 hS2
              (try simp only [Keeps, Cells] at hS2)
              (try simp only [HasC, Cells] at hS2)
              go_simp
              with_reducible rfl
            simp only [Act.put, List.setIfInBounds_toArray, List.set_cons_zero, List.set_cons_succ]
          repeat
            first
              | (apply wpSeq_unread (by rw [hY]; rfl)
                 simp only [Act.put, List.setIfInBounds_toArray, List.set_cons_zero, List.set_cons_succ])
              | (refine wpSeq_skip (by rw [hY]; rfl) (Keeps.start hC3) ?_
                 simp only [Act.put, List.setIfInBounds_toArray, List.set_cons_zero, List.set_cons_succ])
          repeat
            apply wpSeq_read (by first | rfl | (rw [hY]; rfl))
            · intro w2 hS2
              (try simp only [Keeps, Cells] at hS2)
              (try simp only [HasC, Cells] at hS2)
              go_simp
              with_reducible rfl
            simp only [Act.put, List.setIfInBounds_toArray, List.set_cons_zero, List.set_cons_succ]
          refine wpSeq_done (hF.out _ _ (fun K hK => ?_))
          clear hF hY
          refine OnlyK.mk (hK.out _ _ ?_)
          clear hK
          have hB8 := below_trans hB (Keeps.start hC3).1
          generalize wr.drew = w8 at *
          go_wp2
          go_roundw
          case rel => exact ⟨q + 1, by omega, by first | (simp; done) | (simp; omega), hB8⟩
          case measure => simp [intOf]; omega
        · have eg : ((q : Int) != (J : Int)) = true := by simp; omega
          rw [HY2.out q hqJ] at y2
          obtain ⟨v, hv⟩ : ∃ v, X.getD q 0 = v := ⟨_, rfl⟩
          rw [hv] at y1 y2
          have hC3 : Cells wr [(⟨w1.heap.size, 1, none⟩, .slice (some ⟨g1, o1, none⟩) X.length c1), (⟨w4.heap.size, 1, none⟩, .slice (some ⟨g2, o2, none⟩) X.length c4), (⟨g1, o1 + q, none⟩, .int .u8 v), (⟨g2, o2 + q, none⟩, .int .u8 v)] := ⟨A7.cell 1, D7.cell 1, y1, y2, trivial⟩
          clear hc1 hc2 y1 y2 A7 D7 hv
          go_wp2
          refine wp_region_seq 19 0 [(true, [true, true, true, true, true, true, true, true, true, true, true, true, true, true, true, true, true, true, true])] _ _ (Keeps wr [(⟨w1.heap.size, 1, none⟩, .slice (some ⟨g1, o1, none⟩) X.length c1), (⟨w4.heap.size, 1, none⟩, .slice (some ⟨g2, o2, none⟩) X.length c4), (⟨g1, o1 + q, none⟩, .int .u8 v), (⟨g2, o2 + q, none⟩, .int .u8 v)]) (by kernel_rfl) (List.take_append_drop 19 _).symm (by kernel_rfl) (by kernel_rfl) (by kernel_rfl) (by kernel_rfl) (Keeps.start hC3) (fun Y Q4 F4 hY hF => ?_)
          simp only [phased, List.flatMap_cons, List.flatMap_nil, List.take_succ_cons, List.take_zero, List.drop_succ_cons, List.drop_zero, sel_true, sel_false, sel_nil, List.map_cons, List.map_nil, List.cons_append, List.nil_append, List.append_nil]
          repeat
            apply wpSeq_read (by first | rfl | (rw [hY]; rfl))
            · intro w2 hS2
              (try simp only [Keeps, Cells] at hS2)
              (try simp only [HasC, Cells] at hS2)
              go_simp
              with_reducible rfl
            simp only [Act.put, List.setIfInBounds_toArray, List.set_cons_zero, List.set_cons_succ]
          refine wpSeq_done (hF.out _ _ (fun K hK => ?_))
          clear hF hY
          refine OnlyK.mk (hK.out _ _ ?_)
          clear hK
          have hB8 := below_trans hB (Keeps.start hC3).1
          generalize wr.drew = w8 at *
          go_wp2
          go_roundw
          case rel => exact ⟨q + 1, by omega, by first | (simp; done) | (simp; omega), hB8⟩
          case measure => simp [intOf]; omega
      · obtain rfl : q = X.length := by omega
        go_wp2_with fail
        refine (HA.out _).mono ?_
        rintro e w9 ⟨rfl, hb9⟩
        have hB9 := below_trans hBr hb9
        go_wp2
        go_returns
        exact ⟨rfl, hB9⟩
end Go.Proofs.Ytgbjckjfjoiilaa
